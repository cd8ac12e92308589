/- What the main processor reads at a place that is no port. Conditions: the machine lies in a box. -/
import Derived.Test.YtkoocfcnfolkhaaGreatDoorSq
import Derived.Test.YtkoocfcnfolkhaaGreatDoorSh
import Derived.Test.YtkoocfcnfolkhaaGreatDoorRows
import Derived.Test.YtkoocfcnfolkhaaGreatDoorP09
import Derived.Test.YtkoocfcnfolkhaaGreatDoorP22
import Derived.Test.YtkoocfcnfolkhaaGreatDoorPartW
import Derived.BigQuiet
import Derived.Test.YtkoocfcnfolkhaaGreatDoorP24
set_option linter.unusedVariables false
set_option linter.unusedSimpArgs false
set_option maxHeartbeats 4000000
set_option maxRecDepth 100000
namespace Go.Proofs.YtkoocfcnfolkhaaGreatDoor
open Go.RowKit Go.Mq
theorem z3E{w0:World}{V:Nat->Value}{bb H:Nat}(w:World)(x:Bx)(a:Int)(ha:U16 a)(h:RelX 89 w0 V bb H w x):
  Calls Tryz.prog 107 #[.pointer (some ⟨bb,0,none⟩),.int .u16 a] w fun e w'=>e= .returned (.int .u8 (plainF x.m a))/\Drew w w':=by
 obtain⟨-,⟨wv,hbx,-⟩,hm,hf,-⟩:=h
 obtain⟨ha0,ha1⟩:=ha
 have lb:=hbx.lt
 have fb:=hbx.free
 have c30:w.cell? ⟨bb,30,none⟩=some (V 0):=(hbx.cell 30).trans (bx30 ..)
 have c32:w.cell? ⟨bb,32,none⟩=some (V 2):=(hbx.cell 32).trans (bx32 ..)
 have c34:w.cell? ⟨bb,34,none⟩=some (V 4):=(hbx.cell 34).trans (bx34 ..)
 have l0:((x.m.mem 0).length:Int)<=1024:=by have:=hf.l0;omega
 have e2:=hf.l2
 have e4:=hf.l4
 clear hbx
 unfold plainF
 by_cases d1:a<((x.m.mem 0).length:Int)/\a<32768
 ·rw[if_pos d1]
  obtain⟨d1,d2⟩:=d1
  obtain⟨k,rfl⟩:=Int.eq_ofNat_of_zero_le ha0
  obtain⟨g,cap,hv,-,hc,hz,hl⟩:=hm.at 0 kO k kO
  rw[hv]at c30
  simp only[Int.toNat_natCast]
  obtain⟨q,hq⟩:∃q,q=(x.m.mem 0).getD k 0:=⟨_,rfl⟩
  obtain⟨n,hn⟩:∃n,n=(x.m.mem 0).length:=⟨_,rfl⟩
  rw[<-hq]at hc⊢
  rw[<-hn]at c30 d1 l0
  clear hq hn hv e2 e4 hm hf
  go_enter Tryz.func107,Tryz.ntmps107
  go_wp2
  go_ret
  exact⟨rfl,by first|exact Drew.refl _|exact⟨_,rfl⟩⟩
 ·rw[if_neg d1]
  obtain⟨ao,cp,hv⟩:=hm.shape 0 kO
  rw[hv]at c30
  obtain⟨n,hn⟩:∃n,n=(x.m.mem 0).length:=⟨_,rfl⟩
  rw[<-hn]at c30 d1 l0
  clear hn hv
  by_cases d2:32768<=a/\a<49152
  ·rw[if_pos d2]
   obtain⟨d2,d3⟩:=d2
   have d4:¬a<32768:=by omega
   obtain⟨k,hk⟩:∃k:Nat,a%128=(k:Int):=⟨(a%128).toNat,by omega⟩
   obtain⟨g,cap,hv,-,hc,hz,hl⟩:=hm.at 2 kO k kO
   rw[hv,e2]at c32
   have k1:(k:Int)<128:=by omega
   rw[hk]
   simp only[Int.toNat_natCast]
   obtain⟨q,hq⟩:∃q,q=(x.m.mem 2).getD k 0:=⟨_,rfl⟩
   rw[<-hq]at hc⊢
   clear hq hv e2 e4 hm hf d1 
   go_enter Tryz.func107,Tryz.ntmps107
   go_wp2
   all_goals
    go_ret
    exact⟨rfl,by first|exact Drew.refl _|exact⟨_,rfl⟩⟩
  ·rw[if_neg d2]
   by_cases d3:49152<=a/\a<53248
   ·rw[if_pos d3]
    obtain⟨d3,d4⟩:=d3
    have d5:¬a<32768:=by omega
    have d6:¬a<49152:=by omega
    obtain⟨k,hk⟩:∃k:Nat,a%256=(k:Int):=⟨(a%256).toNat,by omega⟩
    obtain⟨g,cap,hv,-,hc,hz,hl⟩:=hm.at 4 kO k kO
    rw[hv,e4]at c34
    have k1:(k:Int)<256:=by omega
    have hk':bits .and .u16 a 255=(k:Int):=by rw[z1H a ⟨ha0,ha1⟩,hk]
    rw[hk]
    simp only[Int.toNat_natCast]
    obtain⟨q,hq⟩:∃q,q=(x.m.mem 4).getD k 0:=⟨_,rfl⟩
    rw[<-hq]at hc⊢
    clear hq hv e2 e4 hm hf d1 d2 hk
    go_enter Tryz.func107,Tryz.ntmps107
    go_wp2
    all_goals
     go_ret
     exact⟨rfl,by first|exact Drew.refl _|exact⟨_,rfl⟩⟩
   ·rw[if_neg d3]
    have d4:(a<32768/\(n:Int)<=a)\/53248<=a:=by omega
    clear d1 d2 d3 e2 e4 hm hf
    rcases d4 with⟨d4,d5⟩|d4
    ·have d6:¬32768<=a:=by omega
     have d7:¬49152<=a:=by omega
     have d8:¬a<(n:Int):=by omega
     go_enter Tryz.func107,Tryz.ntmps107
     go_wp2
     go_ret
     exact⟨rfl,by first|exact Drew.refl _|exact⟨_,rfl⟩⟩
    ·have d6:¬a<32768:=by omega
     have d7:¬a<49152:=by omega
     have d8:¬a<53248:=by omega
     go_enter Tryz.func107,Tryz.ntmps107
     go_wp2
     all_goals
      go_ret
      exact⟨rfl,by first|exact Drew.refl _|exact⟨_,rfl⟩⟩
end Go.Proofs.YtkoocfcnfolkhaaGreatDoor
/- What processors read. Conditions: the machine lies in a box. -/
namespace Go.Proofs.YtkoocfcnfolkhaaGreatDoor
open Go.RowKit Go.Mq
theorem z0q(n:Int)(h:U16 n):bits .and .u16 n 31=n%32:=by
 have:=bits_mask .u16 16 kD (fun n h h'=>by rw[z0l];omega) 5 kO n h.1 (by unfold U16 at h;omega)
 simpa using this
theorem kp_of{B:Nat}{w w':World}(h:Below w.heap.size w w'):Kp B NoX w w':=Kp.below (Kp.refl _ _ _) h (Nat.le_refl _)
theorem z0u{B:Nat}{w w':World}(h:Drew w w'):Kp B NoX w w':=kp_of (h.below _)
theorem z0S{B:Nat}{w w':World}(h:Drew w w'):St B w w':=⟨h.below B,fun k _=>by rw[h.heap]⟩
theorem z1d(c:Bool)(w:World):Calls Tryz.prog 109 #[.bool c,.int .i64 0] w fun e w'=>e= .returned (.int .u8 (b1 c 1))/\w=w':=by
 unfold b1
 cases c
 ·go_enter Tryz.func109,Tryz.ntmps109
  go_wp2
  go_ret
  exact⟨rfl,rfl⟩
 ·go_enter Tryz.func109,Tryz.ntmps109
  go_wp2
  go_ret
  exact⟨rfl,rfl⟩
theorem z7Z(c:Bool)(w:World):Calls Tryz.prog 109 #[.bool c,.int .i64 1] w fun e w'=>e= .returned (.int .u8 (b1 c 2))/\w=w':=by
 unfold b1
 cases c
 ·go_enter Tryz.func109,Tryz.ntmps109
  go_wp2
  go_ret
  exact⟨rfl,rfl⟩
 ·go_enter Tryz.func109,Tryz.ntmps109
  go_wp2
  go_ret
  exact⟨rfl,rfl⟩
theorem inP0{m:Mach}(h:m.In){p:Pd}(hp:p.Ok):({m with p0:=p}:Mach).In:=⟨h.mc,h.ac,h.mem,hp,h.p1,h.tm,h.sd,h.wt,h.ln,h.pt,h.fr,h.fm,h.to,h.m0,h.m1,h.ck,h.mr,h.ar⟩
theorem inP1{m:Mach}(h:m.In){p:Pd}(hp:p.Ok):({m with p1:=p}:Mach).In:=⟨h.mc,h.ac,h.mem,h.p0,hp,h.tm,h.sd,h.wt,h.ln,h.pt,h.fr,h.fm,h.to,h.m0,h.m1,h.ck,h.mr,h.ar⟩
def bitF(c:Bool)(n:Int):Int:=b1 c (n+1)
theorem z1P(c:Bool)(n:Int)(h:n=0\/n=1)(w:World):Calls Tryz.prog 109 #[.bool c,.int .i64 n] w fun e w'=>e= .returned (.int .u8 (bitF c n))/\w=w':=by
 rcases h with rfl|rfl
 ·exact z1d c w
 ·exact z7Z c w
theorem or_b1(c d:Bool):bits .or .u8 (bitF c 0) (bitF d 1)=b1 c 1+b1 d 2:=by cases c<;>cases d<;>decide
theorem z7y{w0:World}{V:Nat->Value}{bb B H:Nat}(L:LiesX V bb B H)(w:World)(x:Bx)(a:Int)(ha:U16 a)(h:RelX 89 w0 V bb H w x)(hB:B<=w.heap.size)(hp:isPort a=false):Calls Tryz.prog 75 #[.pointer (some ⟨bb,0,none⟩),.int .u16 a] w fun e w'=>e= .returned (.int .u8 (mainG x.m a))/\RelX 89 w0 V bb H w' (mainGS x a)/\Kp B NoX w w':=by
 have PL:=zh (z3E w x a ha h)
 have e1:mainG x.m a=plainF x.m a:=by unfold mainG;rw[hp,if_neg Bool.false_ne_true]
 have e2:mainGS x a=x:=by unfold mainGS;rw[hp,if_neg Bool.false_ne_true]
 rw[e1,e2]
 have hh:=zh (fun w' (k:Drew w w')=>h.stable L (z0S k))
 clear e1 e2 h L
 obtain⟨a0,a1⟩:=ha
 have d:a<53248\/57344<=a:=by unfold isPort at hp;simp at hp;omega
 clear hp
 rcases d with d|d
 ·go_enter Tryz.func75,Tryz.ntmps75
  go_wp2_with fail
  refine PL.out.mono ?_
  rintro e w1 ⟨rfl,hd⟩
  go_wp2
  go_ret
  exact⟨rfl,hh.out _ hd,z0u hd⟩
 ·have d2:¬a<53248:=by omega
  go_enter Tryz.func75,Tryz.ntmps75
  go_wp2_with fail
  refine PL.out.mono ?_
  rintro e w1 ⟨rfl,hd⟩
  go_wp2
  go_ret
  exact⟨rfl,hh.out _ hd,z0u hd⟩
theorem z9c{w0:World}{V:Nat->Value}{bb B H:Nat}(L:LiesX V bb B H)(w:World)(x:Bx)(a:Int)(ha:U16 a)(h:RelX 89 w0 V bb H w x)(hB:B<=w.heap.size)(hp:isPort a=true)(hk:a%32=0):Calls Tryz.prog 75 #[.pointer (some ⟨bb,0,none⟩),.int .u16 a] w fun e w'=>e= .returned (.int .u8 (mainG x.m a))/\RelX 89 w0 V bb H w' (mainGS x a)/\Kp B NoX w w':=by
 have RD:=zh (z2t x.m.p0 h.inn.p0)
 have e1:mainG x.m a=bitP x.m.p0:=by unfold mainG;rw[hp,if_pos rfl,hk];unfold portG;rw[if_pos rfl]
 have e2:mainGS x a=x.wP0 (readP x.m.p0):=by unfold mainGS;rw[hp,if_pos rfl,hk];unfold portGS;rw[if_pos rfl]
 rw[e1,e2]
 have k1:bits .and .u16 a 31=0:=by rw[z0q a ha,hk]
 have k2:bits .and .u16 a 1=0:=by rw[and1 a ha];omega
 have d:53248<=a/\a<57344:=by unfold isPort at hp;simpa using hp
 obtain⟨d1,d2⟩:=d
 have d3:¬a<53248:=by omega
 have d4:¬57344<=a:=by omega
 have hr:=z2b x.m.p0 h.inn.p0
 obtain⟨h1,⟨wv,hbx,hws⟩,hm,hf,hi⟩:=h
 have L1:=L.lo
 have L2:=L.hi
 have lb:=hbx.lt
 have fb:=hbx.free
 have KB:=zh hbx
 have ST:=zh (And.intro h1 (And.intro hws (And.intro hm (And.intro hf hi))))
 clear e1 e2 hbx hws hm hf hi h1 hp hk
 go_enter Tryz.func75,Tryz.ntmps75
 go_wp2_with (first|((with_reducible show wpList _ _ _ _ _ _);refine lA 29 34 rfl rfl (bb) (35) 3 rfl 89 (boxC V x wv) #[.int .u8 x.m.p0.dn,.bool x.m.p0.la,.int .u8 x.m.p0.sh] kB Tryz.underlying29 ?_))
 refine(RD.out _).mono ?_
 rintro e w1 ⟨rfl,hb1⟩
 have hs1:=hb1.size
 go_wp2_with (first|((with_reducible show wpList _ _ _ _ _ _);refine sA 29 39 38 rfl rfl (bb) (35) #[.int .u8 (readP x.m.p0).dn,.bool (readP x.m.p0).la,.int .u8 (readP x.m.p0).sh] rfl rfl 89 (boxC V x wv) (boxC V (x.wP0 (readP x.m.p0)) wv) kB ?_;intro w2 hp_w2 K_w2))
 go_ret
 exact⟨rfl,RelX.box1 L ST.out KB.out ((But.of hb1 (Nat.le_refl _)).put hp_w2) kD K_w2.out rfl rfl (inP0 ST.out.2.2.2.2 hr),((But.of hb1 (Nat.le_refl _)).put hp_w2).kp kO⟩
theorem z9b{w0:World}{V:Nat->Value}{bb B H:Nat}(L:LiesX V bb B H)(w:World)(x:Bx)(a:Int)(ha:U16 a)(h:RelX 89 w0 V bb H w x)(hB:B<=w.heap.size)(hp:isPort a=true)(hk:a%32=1):Calls Tryz.prog 75 #[.pointer (some ⟨bb,0,none⟩),.int .u16 a] w fun e w'=>e= .returned (.int .u8 (mainG x.m a))/\RelX 89 w0 V bb H w' (mainGS x a)/\Kp B NoX w w':=by
 have RD:=zh (z2t x.m.p1 h.inn.p1)
 have e1:mainG x.m a=bitP x.m.p1:=by unfold mainG;rw[hp,if_pos rfl,hk];unfold portG;rw[if_neg kD,if_pos rfl]
 have e2:mainGS x a=x.wP1 (readP x.m.p1):=by unfold mainGS;rw[hp,if_pos rfl,hk];unfold portGS;rw[if_neg kD,if_pos rfl]
 rw[e1,e2]
 have k1:bits .and .u16 a 31=1:=by rw[z0q a ha,hk]
 have k2:bits .and .u16 a 1=1:=by rw[and1 a ha];omega
 have d:53248<=a/\a<57344:=by unfold isPort at hp;simpa using hp
 obtain⟨d1,d2⟩:=d
 have d3:¬a<53248:=by omega
 have d4:¬57344<=a:=by omega
 have hr:=z2b x.m.p1 h.inn.p1
 obtain⟨h1,⟨wv,hbx,hws⟩,hm,hf,hi⟩:=h
 have L1:=L.lo
 have L2:=L.hi
 have lb:=hbx.lt
 have fb:=hbx.free
 have KB:=zh hbx
 have ST:=zh (And.intro h1 (And.intro hws (And.intro hm (And.intro hf hi))))
 clear e1 e2 hbx hws hm hf hi h1 hp hk
 go_enter Tryz.func75,Tryz.ntmps75
 go_wp2_with (first|((with_reducible show wpList _ _ _ _ _ _);refine lA 29 34 rfl rfl (bb) (38) 3 rfl 89 (boxC V x wv) #[.int .u8 x.m.p1.dn,.bool x.m.p1.la,.int .u8 x.m.p1.sh] kB Tryz.underlying29 ?_))
 refine(RD.out _).mono ?_
 rintro e w1 ⟨rfl,hb1⟩
 have hs1:=hb1.size
 go_wp2_with (first|((with_reducible show wpList _ _ _ _ _ _);refine sA 29 39 38 rfl rfl (bb) (38) #[.int .u8 (readP x.m.p1).dn,.bool (readP x.m.p1).la,.int .u8 (readP x.m.p1).sh] rfl rfl 89 (boxC V x wv) (boxC V (x.wP1 (readP x.m.p1)) wv) kB ?_;intro w2 hp_w2 K_w2))
 go_ret
 exact⟨rfl,RelX.box1 L ST.out KB.out ((But.of hb1 (Nat.le_refl _)).put hp_w2) kD K_w2.out rfl rfl (inP1 ST.out.2.2.2.2 hr),((But.of hb1 (Nat.le_refl _)).put hp_w2).kp kO⟩
theorem mg_p4{w0:World}{V:Nat->Value}{bb B H:Nat}(L:LiesX V bb B H)(w:World)(x:Bx)(a:Int)(ha:U16 a)(h:RelX 89 w0 V bb H w x)(hB:B<=w.heap.size)(hp:isPort a=true)(hk:a%32=4):Calls Tryz.prog 75 #[.pointer (some ⟨bb,0,none⟩),.int .u16 a] w fun e w'=>e= .returned (.int .u8 (mainG x.m a))/\RelX 89 w0 V bb H w' (mainGS x a)/\Kp B NoX w w':=by
 have e1:mainG x.m a=b1 x.m.tm.on 1+b1 x.m.tm.rg 2:=by unfold mainG;rw[hp,if_pos rfl,hk];unfold portG;rw[if_neg kD,if_neg kD,if_pos rfl]
 have e2:mainGS x a=x:=by unfold mainGS;rw[hp,if_pos rfl,hk];unfold portGS;rw[if_neg kD,if_neg kD]
 rw[e1,e2]
 have k1:bits .and .u16 a 31=4:=by rw[z0q a ha,hk]
 have d:53248<=a/\a<57344:=by unfold isPort at hp;simpa using hp
 obtain⟨d1,d2⟩:=d
 have d3:¬a<53248:=by omega
 have d4:¬57344<=a:=by omega
 have hh:=zh (fun w' (k:Drew w w')=>h.stable L (z0S k))
 obtain⟨h1,⟨wv,hbx,hws⟩,hm,hf,hi⟩:=h
 have lb:=hbx.lt
 have c43:w.cell? ⟨bb,43,none⟩=some (.bool x.m.tm.on):=(hbx.cell 43).trans (bx43 ..);have c44:w.cell? ⟨bb,44,none⟩=some (.bool x.m.tm.rg):=(hbx.cell 44).trans (bx44 ..);have OB:=or_b1 x.m.tm.on x.m.tm.rg
 clear e1 e2 hbx hws hm hf hi h1 hp hk
 go_enter Tryz.func75,Tryz.ntmps75
 go_wp2_with (first|(go_at_call 109;refine(z1d _ _).mono ?_;rintro e w' ⟨rfl,rfl⟩))
 try go_quiet ((go_at_call 109;exact z0M (z1P _ _ kD _)))
 go_wp2_with (first|((with_reducible show wpList _ _ _ _ _ _);refine sA 29 39 38 rfl rfl (bb) (38) #[.int .u8 (readP x.m.p1).dn,.bool (readP x.m.p1).la,.int .u8 (readP x.m.p1).sh] rfl rfl 89 (boxC V x wv) (boxC V (x.wP1 (readP x.m.p1)) wv) kB ?_;intro w2 hp_w2 K_w2)|go_in)
 go_ret
 exact⟨rfl,hh.out _ (by first|exact Drew.refl _|exact⟨_,rfl⟩),z0u (by first|exact Drew.refl _|exact⟨_,rfl⟩)⟩
theorem mg_p6{w0:World}{V:Nat->Value}{bb B H:Nat}(L:LiesX V bb B H)(w:World)(x:Bx)(a:Int)(ha:U16 a)(h:RelX 89 w0 V bb H w x)(hB:B<=w.heap.size)(hp:isPort a=true)(hk:a%32=6):Calls Tryz.prog 75 #[.pointer (some ⟨bb,0,none⟩),.int .u16 a] w fun e w'=>e= .returned (.int .u8 (mainG x.m a))/\RelX 89 w0 V bb H w' (mainGS x a)/\Kp B NoX w w':=by
 have e1:mainG x.m a=x.m.bm.ln%256:=by unfold mainG;rw[hp,if_pos rfl,hk];unfold portG;rw[if_neg kD,if_neg kD,if_neg kD,if_pos rfl]
 have e2:mainGS x a=x:=by unfold mainGS;rw[hp,if_pos rfl,hk];unfold portGS;rw[if_neg kD,if_neg kD]
 rw[e1,e2]
 have k1:bits .and .u16 a 31=6:=by rw[z0q a ha,hk]
 have d:53248<=a/\a<57344:=by unfold isPort at hp;simpa using hp
 obtain⟨d1,d2⟩:=d
 have d3:¬a<53248:=by omega
 have d4:¬57344<=a:=by omega
 have hh:=zh (fun w' (k:Drew w w')=>h.stable L (z0S k))
 obtain⟨h1,⟨wv,hbx,hws⟩,hm,hf,hi⟩:=h
 have lb:=hbx.lt
 have c61:w.cell? ⟨bb,61,none⟩=some (.int .i64 x.m.bm.ln):=(hbx.cell 61).trans (bx61 ..);have OB:IntKind.u8.wrap x.m.bm.ln=x.m.bm.ln%256:=wrap8 _
 clear e1 e2 hbx hws hm hf hi h1 hp hk
 go_enter Tryz.func75,Tryz.ntmps75
 go_wp2_with (first|(go_at_call 109;refine(z1d _ _).mono ?_;rintro e w' ⟨rfl,rfl⟩))
 try go_quiet ((go_at_call 109;exact z0M (z1P _ _ kD _)))
 go_wp2_with (first|((with_reducible show wpList _ _ _ _ _ _);refine sA 29 39 38 rfl rfl (bb) (38) #[.int .u8 (readP x.m.p1).dn,.bool (readP x.m.p1).la,.int .u8 (readP x.m.p1).sh] rfl rfl 89 (boxC V x wv) (boxC V (x.wP1 (readP x.m.p1)) wv) kB ?_;intro w2 hp_w2 K_w2)|go_in)
 go_ret
 exact⟨rfl,hh.out _ (by first|exact Drew.refl _|exact⟨_,rfl⟩),z0u (by first|exact Drew.refl _|exact⟨_,rfl⟩)⟩
theorem mg_p7{w0:World}{V:Nat->Value}{bb B H:Nat}(L:LiesX V bb B H)(w:World)(x:Bx)(a:Int)(ha:U16 a)(h:RelX 89 w0 V bb H w x)(hB:B<=w.heap.size)(hp:isPort a=true)(hk:a%32=7):Calls Tryz.prog 75 #[.pointer (some ⟨bb,0,none⟩),.int .u16 a] w fun e w'=>e= .returned (.int .u8 (mainG x.m a))/\RelX 89 w0 V bb H w' (mainGS x a)/\Kp B NoX w w':=by
 have e1:mainG x.m a=x.m.bm.pt%256:=by unfold mainG;rw[hp,if_pos rfl,hk];unfold portG;rw[if_neg kD,if_neg kD,if_neg kD,if_neg kD,if_pos rfl]
 have e2:mainGS x a=x:=by unfold mainGS;rw[hp,if_pos rfl,hk];unfold portGS;rw[if_neg kD,if_neg kD]
 rw[e1,e2]
 have k1:bits .and .u16 a 31=7:=by rw[z0q a ha,hk]
 have d:53248<=a/\a<57344:=by unfold isPort at hp;simpa using hp
 obtain⟨d1,d2⟩:=d
 have d3:¬a<53248:=by omega
 have d4:¬57344<=a:=by omega
 have hh:=zh (fun w' (k:Drew w w')=>h.stable L (z0S k))
 obtain⟨h1,⟨wv,hbx,hws⟩,hm,hf,hi⟩:=h
 have lb:=hbx.lt
 have c62:w.cell? ⟨bb,62,none⟩=some (.int .i64 x.m.bm.pt):=(hbx.cell 62).trans (bx62 ..);have OB:IntKind.u8.wrap x.m.bm.pt=x.m.bm.pt%256:=wrap8 _
 clear e1 e2 hbx hws hm hf hi h1 hp hk
 go_enter Tryz.func75,Tryz.ntmps75
 go_wp2_with (first|(go_at_call 109;refine(z1d _ _).mono ?_;rintro e w' ⟨rfl,rfl⟩))
 try go_quiet ((go_at_call 109;exact z0M (z1P _ _ kD _)))
 go_wp2_with (first|((with_reducible show wpList _ _ _ _ _ _);refine sA 29 39 38 rfl rfl (bb) (38) #[.int .u8 (readP x.m.p1).dn,.bool (readP x.m.p1).la,.int .u8 (readP x.m.p1).sh] rfl rfl 89 (boxC V x wv) (boxC V (x.wP1 (readP x.m.p1)) wv) kB ?_;intro w2 hp_w2 K_w2)|go_in)
 go_ret
 exact⟨rfl,hh.out _ (by first|exact Drew.refl _|exact⟨_,rfl⟩),z0u (by first|exact Drew.refl _|exact⟨_,rfl⟩)⟩
theorem mg_p8{w0:World}{V:Nat->Value}{bb B H:Nat}(L:LiesX V bb B H)(w:World)(x:Bx)(a:Int)(ha:U16 a)(h:RelX 89 w0 V bb H w x)(hB:B<=w.heap.size)(hp:isPort a=true)(hk:a%32=8):Calls Tryz.prog 75 #[.pointer (some ⟨bb,0,none⟩),.int .u16 a] w fun e w'=>e= .returned (.int .u8 (mainG x.m a))/\RelX 89 w0 V bb H w' (mainGS x a)/\Kp B NoX w w':=by
 have e1:mainG x.m a=b1 x.m.bm.rg 1:=by unfold mainG;rw[hp,if_pos rfl,hk];unfold portG;rw[if_neg kD,if_neg kD,if_neg kD,if_neg kD,if_neg kD,if_pos rfl]
 have e2:mainGS x a=x:=by unfold mainGS;rw[hp,if_pos rfl,hk];unfold portGS;rw[if_neg kD,if_neg kD]
 rw[e1,e2]
 have k1:bits .and .u16 a 31=8:=by rw[z0q a ha,hk]
 have d:53248<=a/\a<57344:=by unfold isPort at hp;simpa using hp
 obtain⟨d1,d2⟩:=d
 have d3:¬a<53248:=by omega
 have d4:¬57344<=a:=by omega
 have hh:=zh (fun w' (k:Drew w w')=>h.stable L (z0S k))
 obtain⟨h1,⟨wv,hbx,hws⟩,hm,hf,hi⟩:=h
 have lb:=hbx.lt
 have c63:w.cell? ⟨bb,63,none⟩=some (.bool x.m.bm.rg):=(hbx.cell 63).trans (bx63 ..)
 clear e1 e2 hbx hws hm hf hi h1 hp hk
 go_enter Tryz.func75,Tryz.ntmps75
 go_wp2_with (first|(go_at_call 109;refine(z1d _ _).mono ?_;rintro e w' ⟨rfl,rfl⟩))
 try go_quiet ((go_at_call 109;exact z0M (z1P _ _ kD _)))
 go_wp2_with (first|((with_reducible show wpList _ _ _ _ _ _);refine sA 29 39 38 rfl rfl (bb) (38) #[.int .u8 (readP x.m.p1).dn,.bool (readP x.m.p1).la,.int .u8 (readP x.m.p1).sh] rfl rfl 89 (boxC V x wv) (boxC V (x.wP1 (readP x.m.p1)) wv) kB ?_;intro w2 hp_w2 K_w2)|go_in)
 go_ret
 exact⟨rfl,hh.out _ (by first|exact Drew.refl _|exact⟨_,rfl⟩),z0u (by first|exact Drew.refl _|exact⟨_,rfl⟩)⟩
theorem z0at{w0:World}{V:Nat->Value}{bb B H:Nat}(L:LiesX V bb B H)(w:World)(x:Bx)(a:Int)(ha:U16 a)(h:RelX 89 w0 V bb H w x)(hB:B<=w.heap.size)(hp:isPort a=true)(hk:a%32=16):Calls Tryz.prog 75 #[.pointer (some ⟨bb,0,none⟩),.int .u16 a] w fun e w'=>e= .returned (.int .u8 (mainG x.m a))/\RelX 89 w0 V bb H w' (mainGS x a)/\Kp B NoX w w':=by
 have e1:mainG x.m a=b1 x.m.gr 1+b1 x.m.hd 2:=by unfold mainG;rw[hp,if_pos rfl,hk];unfold portG;rw[if_neg kD,if_neg kD,if_neg kD,if_neg kD,if_neg kD,if_neg kD,if_pos rfl]
 have e2:mainGS x a=x:=by unfold mainGS;rw[hp,if_pos rfl,hk];unfold portGS;rw[if_neg kD,if_neg kD]
 rw[e1,e2]
 have k1:bits .and .u16 a 31=16:=by rw[z0q a ha,hk]
 have d:53248<=a/\a<57344:=by unfold isPort at hp;simpa using hp
 obtain⟨d1,d2⟩:=d
 have d3:¬a<53248:=by omega
 have d4:¬57344<=a:=by omega
 have hh:=zh (fun w' (k:Drew w w')=>h.stable L (z0S k))
 obtain⟨h1,⟨wv,hbx,hws⟩,hm,hf,hi⟩:=h
 have lb:=hbx.lt
 have c67:w.cell? ⟨bb,67,none⟩=some (.bool x.m.gr):=(hbx.cell 67).trans (bx67 ..);have c68:w.cell? ⟨bb,68,none⟩=some (.bool x.m.hd):=(hbx.cell 68).trans (bx68 ..);have OB:=or_b1 x.m.gr x.m.hd
 clear e1 e2 hbx hws hm hf hi h1 hp hk
 go_enter Tryz.func75,Tryz.ntmps75
 go_wp2_with (first|(go_at_call 109;refine(z1d _ _).mono ?_;rintro e w' ⟨rfl,rfl⟩))
 try go_quiet ((go_at_call 109;exact z0M (z1P _ _ kD _)))
 go_wp2_with (first|((with_reducible show wpList _ _ _ _ _ _);refine sA 29 39 38 rfl rfl (bb) (38) #[.int .u8 (readP x.m.p1).dn,.bool (readP x.m.p1).la,.int .u8 (readP x.m.p1).sh] rfl rfl 89 (boxC V x wv) (boxC V (x.wP1 (readP x.m.p1)) wv) kB ?_;intro w2 hp_w2 K_w2)|go_in)
 go_ret
 exact⟨rfl,hh.out _ (by first|exact Drew.refl _|exact⟨_,rfl⟩),z0u (by first|exact Drew.refl _|exact⟨_,rfl⟩)⟩
theorem z0as{w0:World}{V:Nat->Value}{bb B H:Nat}(L:LiesX V bb B H)(w:World)(x:Bx)(a:Int)(ha:U16 a)(h:RelX 89 w0 V bb H w x)(hB:B<=w.heap.size)(hp:isPort a=true)(hk:a%32=17):Calls Tryz.prog 75 #[.pointer (some ⟨bb,0,none⟩),.int .u16 a] w fun e w'=>e= .returned (.int .u8 (mainG x.m a))/\RelX 89 w0 V bb H w' (mainGS x a)/\Kp B NoX w w':=by
 have e1:mainG x.m a=x.m.m1:=by unfold mainG;rw[hp,if_pos rfl,hk];unfold portG;rw[if_neg kD,if_neg kD,if_neg kD,if_neg kD,if_neg kD,if_neg kD,if_neg kD,if_pos rfl]
 have e2:mainGS x a=x:=by unfold mainGS;rw[hp,if_pos rfl,hk];unfold portGS;rw[if_neg kD,if_neg kD]
 rw[e1,e2]
 have k1:bits .and .u16 a 31=17:=by rw[z0q a ha,hk]
 have d:53248<=a/\a<57344:=by unfold isPort at hp;simpa using hp
 obtain⟨d1,d2⟩:=d
 have d3:¬a<53248:=by omega
 have d4:¬57344<=a:=by omega
 have hh:=zh (fun w' (k:Drew w w')=>h.stable L (z0S k))
 obtain⟨h1,⟨wv,hbx,hws⟩,hm,hf,hi⟩:=h
 have lb:=hbx.lt
 have c70:w.cell? ⟨bb,70,none⟩=some (.int .u8 x.m.m1):=(hbx.cell 70).trans (bx70 ..)
 clear e1 e2 hbx hws hm hf hi h1 hp hk
 go_enter Tryz.func75,Tryz.ntmps75
 go_wp2_with (first|(go_at_call 109;refine(z1d _ _).mono ?_;rintro e w' ⟨rfl,rfl⟩))
 try go_quiet ((go_at_call 109;exact z0M (z1P _ _ kD _)))
 go_wp2_with (first|((with_reducible show wpList _ _ _ _ _ _);refine sA 29 39 38 rfl rfl (bb) (38) #[.int .u8 (readP x.m.p1).dn,.bool (readP x.m.p1).la,.int .u8 (readP x.m.p1).sh] rfl rfl 89 (boxC V x wv) (boxC V (x.wP1 (readP x.m.p1)) wv) kB ?_;intro w2 hp_w2 K_w2)|go_in)
 go_ret
 exact⟨rfl,hh.out _ (by first|exact Drew.refl _|exact⟨_,rfl⟩),z0u (by first|exact Drew.refl _|exact⟨_,rfl⟩)⟩
theorem mg_no{w0:World}{V:Nat->Value}{bb B H:Nat}(L:LiesX V bb B H)(w:World)(x:Bx)(a:Int)(ha:U16 a)(h:RelX 89 w0 V bb H w x)(hB:B<=w.heap.size)(hp:isPort a=true)(n0:a%32≠0)(n1:a%32≠1)(n4:a%32≠4)(n6:a%32≠6)(n7:a%32≠7)(n8:a%32≠8)(n16:a%32≠16)(n17:a%32≠17):Calls Tryz.prog 75 #[.pointer (some ⟨bb,0,none⟩),.int .u16 a] w fun e w'=>e= .returned (.int .u8 (mainG x.m a))/\RelX 89 w0 V bb H w' (mainGS x a)/\Kp B NoX w w':=by
 have e1:mainG x.m a=255:=by unfold mainG;rw[hp,if_pos rfl];unfold portG;rw[if_neg n0,if_neg n1,if_neg n4,if_neg n6,if_neg n7,if_neg n8,if_neg n16,if_neg n17]
 have e2:mainGS x a=x:=by unfold mainGS;rw[hp,if_pos rfl];unfold portGS;rw[if_neg n0,if_neg n1]
 rw[e1,e2]
 obtain⟨p,hpp⟩:∃p,p=a%32:=⟨_,rfl⟩
 have k1:bits .and .u16 a 31=p:=by rw[z0q a ha,hpp]
 rw[<-hpp]at n0 n1 n4 n6 n7 n8 n16 n17
 have m0:(p==0)=false:=by simpa using n0
 have m1:(p==1)=false:=by simpa using n1
 have m4:(p==4)=false:=by simpa using n4
 have m6:(p==6)=false:=by simpa using n6
 have m7:(p==7)=false:=by simpa using n7
 have m8:(p==8)=false:=by simpa using n8
 have m16:(p==16)=false:=by simpa using n16
 have m17:(p==17)=false:=by simpa using n17
 clear n0 n1 n4 n6 n7 n8 n16 n17 hpp
 have d:53248<=a/\a<57344:=by unfold isPort at hp;simpa using hp
 obtain⟨d1,d2⟩:=d
 have d3:¬a<53248:=by omega
 have d4:¬57344<=a:=by omega
 have hh:=zh (fun w' (k:Drew w w')=>h.stable L (z0S k))
 clear e1 e2 h hp L
 go_enter Tryz.func75,Tryz.ntmps75
 go_wp2_with (first|((with_reducible show wpList _ _ _ _ _ _);refine sA 29 39 38 rfl rfl (bb) (38) #[.int .u8 (readP x.m.p1).dn,.bool (readP x.m.p1).la,.int .u8 (readP x.m.p1).sh] rfl rfl 89 (boxC V x wv) (boxC V (x.wP1 (readP x.m.p1)) wv) kB ?_;intro w2 hp_w2 K_w2)|go_in)
 go_ret
 exact⟨rfl,hh.out _ (Drew.refl _),z0u (Drew.refl _)⟩
theorem z4g{w0:World}{V:Nat->Value}{bb B H:Nat}(L:LiesX V bb B H)(w:World)(x:Bx)(a:Int)(ha:U16 a)(h:RelX 89 w0 V bb H w x)(hB:B<=w.heap.size):Calls Tryz.prog 75 #[.pointer (some ⟨bb,0,none⟩),.int .u16 a] w fun e w'=>e= .returned (.int .u8 (mainG x.m a))/\RelX 89 w0 V bb H w' (mainGS x a)/\Kp B NoX w w':=by
 by_cases hp:isPort a=true
 ·by_cases n0:a%32=0
  ·exact z9c L w x a ha h hB hp n0
  ·by_cases n1:a%32=1
   ·exact z9b L w x a ha h hB hp n1
   ·by_cases n4:a%32=4
    ·exact mg_p4 L w x a ha h hB hp n4
    ·by_cases n6:a%32=6
     ·exact mg_p6 L w x a ha h hB hp n6
     ·by_cases n7:a%32=7
      ·exact mg_p7 L w x a ha h hB hp n7
      ·by_cases n8:a%32=8
       ·exact mg_p8 L w x a ha h hB hp n8
       ·by_cases n16:a%32=16
        ·exact z0at L w x a ha h hB hp n16
        ·by_cases n17:a%32=17
         ·exact z0as L w x a ha h hB hp n17
         ·exact mg_no L w x a ha h hB hp n0 n1 n4 n6 n7 n8 n16 n17
 ·exact z7y L w x a ha h hB (by simpa using hp)
end Go.Proofs.YtkoocfcnfolkhaaGreatDoor
/- What the other processor reads. Conditions: the machine lies in a box. -/
namespace Go.Proofs.YtkoocfcnfolkhaaGreatDoor
open Go.RowKit Go.Mq
theorem inRg{m:Mach}(h:m.In)(b:Bool):({m with rg:=b}:Mach).In:=⟨h.mc,h.ac,h.mem,h.p0,h.p1,h.tm,h.sd,h.wt,h.ln,h.pt,h.fr,h.fm,h.to,h.m0,h.m1,h.ck,h.mr,h.ar⟩
theorem z5u{w0:World}{V:Nat->Value}{bb B H:Nat}(L:LiesX V bb B H)(w:World)(x:Bx)(a:Int)(ha:U16 a)(h:RelX 89 w0 V bb H w x)(hB:B<=w.heap.size):Calls Tryz.prog 104 #[.pointer (some ⟨bb,0,none⟩),.int .u16 a] w fun e w'=>e= .returned (.int .u8 (auxG x.m a))/\RelX 89 w0 V bb H w' (auxGS x a)/\Kp B NoX w w':=by
 have hh:=zh (fun w' (k:Drew w w')=>h.stable L (z0S k))
 have ha':=zh ha
 obtain⟨h1,⟨wv,hbx,hws⟩,hm,hf,hi⟩:=h
 obtain⟨a0,a1⟩:=ha
 have L1:=L.lo
 have L2:=L.hi
 have lb:=hbx.lt
 have fb:=hbx.free
 have c31:w.cell? ⟨bb,31,none⟩=some (V 1):=(hbx.cell 31).trans (bx31 ..)
 have c32:w.cell? ⟨bb,32,none⟩=some (V 2):=(hbx.cell 32).trans (bx32 ..)
 have c33:w.cell? ⟨bb,33,none⟩=some (V 3):=(hbx.cell 33).trans (bx33 ..)
 have c67:w.cell? ⟨bb,67,none⟩=some (.bool x.m.gr):=(hbx.cell 67).trans (bx67 ..)
 have c69:w.cell? ⟨bb,69,none⟩=some (.int .u8 x.m.m0):=(hbx.cell 69).trans (bx69 ..)
 have c71:w.cell? ⟨bb,71,none⟩=some (.bool x.m.rg):=(hbx.cell 71).trans (bx71 ..)
 have l1:((x.m.mem 1).length:Int)<=1024:=by have:=hf.l1;omega
 have e2:=hf.l2
 have e3:=hf.l3
 have KB:=zh hbx
 have ST:=zh (And.intro h1 (And.intro hws (And.intro hm (And.intro hf hi))))
 clear hbx hws hi h1
 unfold auxG auxGS
 by_cases d1:a<((x.m.mem 1).length:Int)/\a<32768
 ·rw[if_pos d1]
  obtain⟨d1,d2⟩:=d1
  have np:¬(isPort a=true/\a%32=24):=by unfold isPort;simp;omega
  rw[if_neg np]
  obtain⟨k,rfl⟩:=Int.eq_ofNat_of_zero_le a0
  obtain⟨g,cap,hv,-,hc,hz,hl⟩:=hm.at 1 kO k kO
  rw[hv]at c31
  simp only[Int.toNat_natCast]
  obtain⟨q,hq⟩:∃q,q=(x.m.mem 1).getD k 0:=⟨_,rfl⟩
  obtain⟨n,hn⟩:∃n,n=(x.m.mem 1).length:=⟨_,rfl⟩
  rw[<-hq]at hc⊢
  rw[<-hn]at c31 d1 l1
  clear hq hn hv e2 e3 hm hf np c32 c33 c67 c69 c71
  go_enter Tryz.func104,Tryz.ntmps104
  go_wp2
  go_ret
  exact⟨rfl,hh.out _ (by first|exact Drew.refl _|exact⟨_,rfl⟩),z0u (by first|exact Drew.refl _|exact⟨_,rfl⟩)⟩
 ·rw[if_neg d1]
  obtain⟨ao,cp,hv⟩:=hm.shape 1 kO
  rw[hv]at c31
  obtain⟨n,hn⟩:∃n,n=(x.m.mem 1).length:=⟨_,rfl⟩
  rw[<-hn]at c31 d1 l1
  clear hn hv
  by_cases d2:32768<=a/\a<49152
  ·rw[if_pos d2]
   have np:¬(isPort a=true/\a%32=24):=by unfold isPort;simp;omega
   rw[if_neg np]
   obtain⟨d2,d3⟩:=d2
   have d4:¬a<32768:=by omega
   obtain⟨k,hk⟩:∃k:Nat,a%64=(k:Int):=⟨(a%64).toNat,by omega⟩
   obtain⟨g,cap,hv,-,hc,hz,hl⟩:=hm.at 3 kO k kO
   rw[hv,e3]at c33
   have k1:(k:Int)<64:=by omega
   rw[hk]
   simp only[Int.toNat_natCast]
   obtain⟨q,hq⟩:∃q,q=(x.m.mem 3).getD k 0:=⟨_,rfl⟩
   rw[<-hq]at hc⊢
   clear hq hv e2 e3 hm hf d1 np c32 c67 c69 c71
   go_enter Tryz.func104,Tryz.ntmps104
   go_wp2
   all_goals
    go_ret
    exact⟨rfl,hh.out _ (by first|exact Drew.refl _|exact⟨_,rfl⟩),z0u (by first|exact Drew.refl _|exact⟨_,rfl⟩)⟩
  ·rw[if_neg d2]
   by_cases d3:49152<=a/\a<53248/\x.m.gr=true
   ·rw[if_pos d3]
    have np:¬(isPort a=true/\a%32=24):=by unfold isPort;simp;omega
    rw[if_neg np]
    obtain⟨d3,d4,hg⟩:=d3
    rw[hg]at c67
    have d5:¬a<32768:=by omega
    have d6:¬a<49152:=by omega
    obtain⟨k,hk⟩:∃k:Nat,a%128=(k:Int):=⟨(a%128).toNat,by omega⟩
    obtain⟨g,cap,hv,-,hc,hz,hl⟩:=hm.at 2 kO k kO
    rw[hv,e2]at c32
    have k1:(k:Int)<128:=by omega
    rw[hk]
    simp only[Int.toNat_natCast]
    obtain⟨q,hq⟩:∃q,q=(x.m.mem 2).getD k 0:=⟨_,rfl⟩
    rw[<-hq]at hc⊢
    clear hq hv e2 e3 hm hf d1 d2 np c33 c69 c71 hg
    go_enter Tryz.func104,Tryz.ntmps104
    go_wp2
    all_goals
     go_ret
     exact⟨rfl,hh.out _ (by first|exact Drew.refl _|exact⟨_,rfl⟩),z0u (by first|exact Drew.refl _|exact⟨_,rfl⟩)⟩
   ·rw[if_neg d3]
    clear e2 e3 hm hf c32 c33
    by_cases d4:isPort a=true/\a%32=24
    ·rw[if_pos d4,if_pos d4]
     obtain⟨hp,hk⟩:=d4
     have d:53248<=a/\a<57344:=by unfold isPort at hp;simpa using hp
     obtain⟨d5,d6⟩:=d
     have d7:¬a<32768:=by omega
     have d8:¬a<49152:=by omega
     have d9:¬a<53248:=by omega
     have k1:bits .and .u16 a 31=24:=by rw[z0q a ha'.out,hk]
     clear d1 d2 d3 hp hk c67
     go_enter Tryz.func104,Tryz.ntmps104
     go_wp2
     all_goals
      go_ret
      exact⟨rfl,RelX.box1 L ST.out KB.out ((But.refl bb w).setCell rfl _) kD (Blk.set KB.out (bs71 V x wv false)) rfl rfl (inRg ST.out.2.2.2.2 false),((But.refl bb w).setCell rfl _).kp kO⟩
    ·rw[if_neg d4,if_neg d4]
     have d5:(a<32768/\(n:Int)<=a)\/(49152<=a/\a<53248)\/(53248<=a/\a<57344)\/57344<=a:=by omega
     rcases d5 with⟨d5,d6⟩|⟨d5,d6⟩|⟨d5,d6⟩|d5
     ·have d7:¬a<(n:Int):=by omega
      have d8:¬32768<=a:=by omega
      have d9:¬49152<=a:=by omega
      have d10:¬53248<=a:=by omega
      clear d1 d2 d3 d4
      go_enter Tryz.func104,Tryz.ntmps104
      go_wp2
      go_ret
      exact⟨rfl,hh.out _ (by first|exact Drew.refl _|exact⟨_,rfl⟩),z0u (by first|exact Drew.refl _|exact⟨_,rfl⟩)⟩
     ·have hg:x.m.gr=false:=by
       cases hq:x.m.gr
       ·rfl
       ·exact absurd ⟨d5,d6,hq⟩ d3
      rw[hg]at c67
      have d7:¬a<32768:=by omega
      have d8:¬a<49152:=by omega
      have d9:¬53248<=a:=by omega
      clear d1 d2 d3 d4 hg
      go_enter Tryz.func104,Tryz.ntmps104
      go_wp2
      all_goals
       go_ret
       exact⟨rfl,hh.out _ (by first|exact Drew.refl _|exact⟨_,rfl⟩),z0u (by first|exact Drew.refl _|exact⟨_,rfl⟩)⟩
     ·have hp:isPort a=true:=by unfold isPort;simp;omega
      have hk:a%32≠24:=fun e=>d4 ⟨hp,e⟩
      obtain⟨p,hpp⟩:∃p,p=a%32:=⟨_,rfl⟩
      have k1:bits .and .u16 a 31=p:=by rw[z0q a ha'.out,hpp]
      rw[<-hpp]at hk
      have m24:(p==24)=false:=by simpa using hk
      have d7:¬a<32768:=by omega
      have d8:¬a<49152:=by omega
      have d9:¬a<53248:=by omega
      clear d1 d2 d3 d4 hp hk hpp
      go_enter Tryz.func104,Tryz.ntmps104
      go_wp2
      all_goals
       go_ret
       exact⟨rfl,hh.out _ (by first|exact Drew.refl _|exact⟨_,rfl⟩),z0u (by first|exact Drew.refl _|exact⟨_,rfl⟩)⟩
     ·have d7:¬a<32768:=by omega
      have d8:¬a<49152:=by omega
      have d9:¬a<53248:=by omega
      have d10:¬a<57344:=by omega
      clear d1 d2 d3 d4
      go_enter Tryz.func104,Tryz.ntmps104
      go_wp2
      all_goals
       go_ret
       exact⟨rfl,hh.out _ (by first|exact Drew.refl _|exact⟨_,rfl⟩),z0u (by first|exact Drew.refl _|exact⟨_,rfl⟩)⟩
end Go.Proofs.YtkoocfcnfolkhaaGreatDoor
/- What the other processor writes. Conditions: the machine lies in a box. -/
namespace Go.Proofs.YtkoocfcnfolkhaaGreatDoor
open Go.RowKit Go.Mq
theorem inM1{m:Mach}(h:m.In){b:Int}(hb:U8 b):({m with m1:=b}:Mach).In:=⟨h.mc,h.ac,h.mem,h.p0,h.p1,h.tm,h.sd,h.wt,h.ln,h.pt,h.fr,h.fm,h.to,h.m0,hb,h.ck,h.mr,h.ar⟩
theorem inSd{m:Mach}(h:m.In){s:Sd}(hs:s.In)(hw:s.wt=m.sd.wt):({m with sd:=s}:Mach).In:=⟨h.mc,h.ac,h.mem,h.p0,h.p1,h.tm,hs,by show I64 s.wt;rw[hw];exact h.wt,h.ln,h.pt,h.fr,h.fm,h.to,h.m0,h.m1,h.ck,h.mr,h.ar⟩
theorem z0ax:(Tryz.prog.info? 71).map (fun i=>(i.zero,i.size,i.bytes))=some (some (.agg #[.int .i64 0,.int .i64 0,.int .u8 0]),3,24):=by kernel_rfl
theorem z0aS{w0:World}{V:Nat->Value}{bb B H:Nat}(L:LiesX V bb B H)(w:World)(x:Bx)(a b:Int)(ha:U16 a)(hb:U8 b)(hroom:x.ws.length<1000000)(h:RelX 89 w0 V bb H w x)(hB:B<=w.heap.size)(d2:32768<=a)(d3:a<49152):Calls Tryz.prog 105 #[.pointer (some ⟨bb,0,none⟩),.int .u16 a,.int .u8 b] w fun e w'=>e= .returned (.tuple #[])/\RelX 89 w0 V bb H w' (auxP x a b)/\Kp B NoX w w':=by
 have e1:auxP x a b={x with m:=poke x.m 3 (a%64).toNat b}:=by unfold auxP;rw[if_pos ⟨d2,d3⟩]
 rw[e1]
 clear e1
 have hh:=zh h
 obtain⟨h1,⟨wv,hbx,hws⟩,hm,hf,hi⟩:=h
 obtain⟨a0,a1⟩:=ha
 have lb:=hbx.lt
 have fb:=hbx.free
 have c33:w.cell? ⟨bb,33,none⟩=some (V 3):=(hbx.cell 33).trans (bx33 ..)
 have e3:=hf.l3
 clear hbx hws hi h1
 have d4:¬49152<=a:=by omega
 have d5:¬53248<=a:=by omega
 obtain⟨k,hk⟩:∃k:Nat,a%64=(k:Int):=⟨(a%64).toNat,by omega⟩
 obtain⟨g,cap,hv,hg,hc,hz,hl⟩:=hm.at 3 kO k kO
 rw[hv,e3]at c33
 have k1:(k:Int)<64:=by omega
 have RP:=zh (RelX.poke L hh.out 3 kO k b hb g hg kD)
 have hgB:=(L.own 3 g kO hg).2.1
 rw[hk]
 simp only[Int.toNat_natCast]
 clear hv e3 hm hf hg hh
 go_enter Tryz.func105,Tryz.ntmps105
 go_wp2
 all_goals exact bodyPost_end (results_none rfl _ _ _) rfl ⟨rfl,RP.out,((But.refl g w).setCell rfl _).kp hgB⟩
theorem z0aR{w0:World}{V:Nat->Value}{bb B H:Nat}(L:LiesX V bb B H)(w:World)(x:Bx)(a b:Int)(ha:U16 a)(hb:U8 b)(hroom:x.ws.length<1000000)(h:RelX 89 w0 V bb H w x)(hB:B<=w.heap.size)(d2:49152<=a)(d3:a<53248)(hg1:x.m.gr=true):Calls Tryz.prog 105 #[.pointer (some ⟨bb,0,none⟩),.int .u16 a,.int .u8 b] w fun e w'=>e= .returned (.tuple #[])/\RelX 89 w0 V bb H w' (auxP x a b)/\Kp B NoX w w':=by
 have e1:auxP x a b={x with m:=poke x.m 2 (a%128).toNat b}:=by unfold auxP;rw[if_neg kO,if_pos ⟨d2,d3⟩,hg1];rfl
 rw[e1]
 clear e1
 have hh:=zh h
 obtain⟨h1,⟨wv,hbx,hws⟩,hm,hf,hi⟩:=h
 obtain⟨a0,a1⟩:=ha
 have lb:=hbx.lt
 have fb:=hbx.free
 have c32:w.cell? ⟨bb,32,none⟩=some (V 2):=(hbx.cell 32).trans (bx32 ..)
 have c67:w.cell? ⟨bb,67,none⟩=some (.bool true):=by rw[<-hg1];exact(hbx.cell 67).trans (bx67 ..)
 have e3:=hf.l2
 clear hbx hws hi h1 hg1
 have d4:¬a<49152:=by omega
 have d5:¬53248<=a:=by omega
 have d6:32768<=a:=by omega
 obtain⟨k,hk⟩:∃k:Nat,a%128=(k:Int):=⟨(a%128).toNat,by omega⟩
 obtain⟨g,cap,hv,hg,hc,hz,hl⟩:=hm.at 2 kO k kO
 rw[hv,e3]at c32
 have k1:(k:Int)<128:=by omega
 have RP:=zh (RelX.poke L hh.out 2 kO k b hb g hg kD)
 have hgB:=(L.own 2 g kO hg).2.1
 rw[hk]
 simp only[Int.toNat_natCast]
 clear hv e3 hm hf hg hh
 go_enter Tryz.func105,Tryz.ntmps105
 go_wp2
 all_goals exact bodyPost_end (results_none rfl _ _ _) rfl ⟨rfl,RP.out,((But.refl g w).setCell rfl _).kp hgB⟩
theorem ap_no{w0:World}{V:Nat->Value}{bb B H:Nat}(L:LiesX V bb B H)(w:World)(x:Bx)(a b:Int)(ha:U16 a)(hb:U8 b)(hroom:x.ws.length<1000000)(h:RelX 89 w0 V bb H w x)(hB:B<=w.heap.size)(hx:(a<32768\/57344<=a)\/(49152<=a/\a<53248/\x.m.gr=false)\/(isPort a=true/\24<a%32)):Calls Tryz.prog 105 #[.pointer (some ⟨bb,0,none⟩),.int .u16 a,.int .u8 b] w fun e w'=>e= .returned (.tuple #[])/\RelX 89 w0 V bb H w' (auxP x a b)/\Kp B NoX w w':=by
 have e1:auxP x a b=x:=by
  unfold auxP
  rcases hx with hx|⟨h1,h2,h3⟩|⟨h1,h2⟩
  ·rw[if_neg kO,if_neg kO,if_neg (by unfold isPort;simp;omega)]
  ·rw[if_neg kO,if_pos ⟨h1,h2⟩,h3];rfl
  ·have d:=h1
   unfold isPort at d
   simp at d
   rw[if_neg kO,if_neg kO,if_pos h1,if_neg kO,if_neg kO]
 rw[e1]
 clear e1
 have hh:=zh h
 have ha':=zh ha
 obtain⟨h1,⟨wv,hbx,hws⟩,hm,hf,hi⟩:=h
 obtain⟨a0,a1⟩:=ha
 have lb:=hbx.lt
 have fb:=hbx.free
 have c67:w.cell? ⟨bb,67,none⟩=some (.bool x.m.gr):=(hbx.cell 67).trans (bx67 ..)
 clear hbx hws hi h1 hm hf L
 rcases hx with(hx|hx)|⟨hx1,hx2,hx3⟩|⟨hx1,hx2⟩
 ·have d1:¬32768<=a:=by omega
  have d2:¬49152<=a:=by omega
  have d3:¬53248<=a:=by omega
  go_enter Tryz.func105,Tryz.ntmps105
  go_wp2
  all_goals exact bodyPost_end (results_none rfl _ _ _) rfl ⟨rfl,hh.out,Kp.refl _ _ _⟩
 ·have d1:¬a<49152:=by omega
  have d2:¬a<53248:=by omega
  have d3:¬a<57344:=by omega
  go_enter Tryz.func105,Tryz.ntmps105
  go_wp2
  all_goals exact bodyPost_end (results_none rfl _ _ _) rfl ⟨rfl,hh.out,Kp.refl _ _ _⟩
 ·rw[hx3]at c67
  clear hx3
  have d1:¬a<49152:=by omega
  have d3:¬53248<=a:=by omega
  go_enter Tryz.func105,Tryz.ntmps105
  go_wp2
  all_goals exact bodyPost_end (results_none rfl _ _ _) rfl ⟨rfl,hh.out,Kp.refl _ _ _⟩
 ·have d:53248<=a/\a<57344:=by unfold isPort at hx1;simpa using hx1
  obtain⟨d1,d2⟩:=d
  have d3:¬a<49152:=by omega
  have d4:¬a<53248:=by omega
  obtain⟨p,hpp⟩:∃p,p=a%32:=⟨_,rfl⟩
  have k1:bits .and .u16 a 31=p:=by rw[z0q a ha'.out,hpp]
  rw[<-hpp]at hx2
  have m1:¬p<24:=by omega
  have m2:(p==24)=false:=by rw[beq_eq_false_iff_ne];omega
  clear hpp hx1
  go_enter Tryz.func105,Tryz.ntmps105
  go_wp2
  all_goals exact bodyPost_end (results_none rfl _ _ _) rfl ⟨rfl,hh.out,Kp.refl _ _ _⟩
theorem z9Q{w0:World}{V:Nat->Value}{bb B H:Nat}(L:LiesX V bb B H)(w:World)(x:Bx)(a b:Int)(ha:U16 a)(hb:U8 b)(hroom:x.ws.length<1000000)(h:RelX 89 w0 V bb H w x)(hB:B<=w.heap.size)(hp:isPort a=true)(hk:a%32=24):Calls Tryz.prog 105 #[.pointer (some ⟨bb,0,none⟩),.int .u16 a,.int .u8 b] w fun e w'=>e= .returned (.tuple #[])/\RelX 89 w0 V bb H w' (auxP x a b)/\Kp B NoX w w':=by
 have d:53248<=a/\a<57344:=by unfold isPort at hp;simpa using hp
 obtain⟨d1,d2⟩:=d
 have e1:auxP x a b={x with m:={x.m with m1:=b}}:=by unfold auxP;rw[if_neg kO,if_neg kO,if_pos hp,if_neg kO,if_pos hk]
 rw[e1]
 have k1:bits .and .u16 a 31=24:=by rw[z0q a ha,hk]
 obtain⟨h1,⟨wv,hbx,hws⟩,hm,hf,hi⟩:=h
 obtain⟨a0,a1⟩:=ha
 have L2:=L.hi
 have lb:=hbx.lt
 have fb:=hbx.free
 have c70:w.cell? ⟨bb,70,none⟩=some (.int .u8 x.m.m1):=(hbx.cell 70).trans (bx70 ..)
 have KB:=zh hbx
 have ST:=zh (And.intro h1 (And.intro hws (And.intro hm (And.intro hf hi))))
 clear e1 hbx hws hi h1 hm hf hp hk
 have d3:¬a<49152:=by omega
 have d4:¬a<53248:=by omega
 go_enter Tryz.func105,Tryz.ntmps105
 go_wp2
 all_goals exact bodyPost_end (results_none rfl _ _ _) rfl ⟨rfl,RelX.box1 L ST.out KB.out ((But.refl bb w).setCell rfl _) kD (Blk.set KB.out (bs70 V x wv b)) rfl rfl (inM1 ST.out.2.2.2.2 hb),((But.refl bb w).setCell rfl _).kp L2⟩
end Go.Proofs.YtkoocfcnfolkhaaGreatDoor
/- A port of the sound is written. Conditions: the machine lies in a box. -/
namespace Go.Proofs.YtkoocfcnfolkhaaGreatDoor
open Go.RowKit Go.Mq
def snd2(x:Bx)(s:Sd)(r:Wr):Bx:={x with m:={x.m with sd:=s},ws:=x.ws++[r]}
theorem z3Q(W:World)(c p b:Int):∀j u,([.int .i64 c,.int .i64 p,.int .u8 b]:List Value)[j]? =some u->(W.alloc (.cells #[.int .i64 c,.int .i64 p,.int .u8 b] 71)).cell? ((⟨W.heap.size,0,none⟩:Addr).add j)=some u:=by
 intro j u hj
 match j,hj with
 |0,hj=>simp at hj;subst hj;simp[Addr.add]
 |1,hj=>simp at hj;subst hj;simp[Addr.add]
 |2,hj=>simp at hj;subst hj;simp[Addr.add]
theorem z6R(c p b:Int):∀u∈([.int .i64 c,.int .i64 p,.int .u8 b]:List Value),u.oneCell'=true:=by
 intro u hu
 simp at hu
 rcases hu with rfl|rfl|rfl<;>rfl
theorem z5v{w:World}{H n g:Nat}{v:Value}{xs:List Value}(h:w.ownsRow H 71 3 v n xs)(hg:v.ownBlock=some g):IsW w g:=by
 rcases h.2 with⟨rfl,-⟩|⟨g',cap,cur,rfl,-,hgg,-⟩
 ·cases hg
 ·injection hg with hg
  subst hg
  exact⟨cur,hgg⟩
theorem z8g{w0:World}{V:Nat->Value}{bb B H:Nat}(L:LiesX V bb B H)(w:World)(x:Bx)(a b:Int)(ha:U16 a)(hb:U8 b)(hroom:x.ws.length<1000000)(h:RelX 89 w0 V bb H w x)(hB:B<=w.heap.size)(hp:isPort a=true)(hk:a%32<24):Calls Tryz.prog 105 #[.pointer (some ⟨bb,0,none⟩),.int .u16 a,.int .u8 b] w fun e w'=>e= .returned (.tuple #[])/\RelX 89 w0 V bb H w' (auxP x a b)/\Kp B NoX w w':=by
 have d:53248<=a/\a<57344:=by unfold isPort at hp;simpa using hp
 obtain⟨d1,d2⟩:=d
 obtain⟨p,hpp⟩:∃p,p=a%32:=⟨_,rfl⟩
 have e1:auxP x a b=snd2 x (putS x.m.sd p b) ⟨x.m.ck,p,b⟩:=by unfold auxP snd2;rw[if_neg kO,if_neg kO,if_pos hp,if_pos hk,<-hpp]
 rw[e1]
 have k1:bits .and .u16 a 31=p:=by rw[z0q a ha,hpp]
 rw[<-hpp]at hk
 have hp0:0<=p:=by omega
 have PA:=zh (z5e x.m.sd h.inn.sd p b hp0 hk hb)
 have hps:=z5S h.inn.sd p hb
 have hpw:=z3Z x.m.sd p b
 obtain⟨s',hs'⟩:∃s',s'=putS x.m.sd p b:=⟨_,rfl⟩
 rw[<-hs']at PA hps hpw⊢
 obtain⟨h1,⟨wv,hbx,hws⟩,hm,hf,hi⟩:=h
 obtain⟨a0,a1⟩:=ha
 have L1:=L.lo
 have L2:=L.hi
 have lb:=hbx.lt
 have fb:=hbx.free
 have KB:=zh hbx
 have ST:=zh (And.intro h1 (And.intro hws (And.intro hm (And.intro hf hi))))
 have HP:=zh (And.intro hps hpw)
 clear e1 hbx hws hm hf hi h1 hp hpp hs' hps hpw
 have d3:¬a<49152:=by omega
 have d4:¬a<53248:=by omega
 go_enter Tryz.func105,Tryz.ntmps105
 go_wp2_with (first|((with_reducible show wpList _ _ _ _ _ _);refine lA 37 62 rfl rfl (bb) (45) 16 rfl 89 (boxC V x wv) #[.int .u16 x.m.sd.a.pd,.int .u16 x.m.sd.a.ct,.int .u8 x.m.sd.a.ld,.bool x.m.sd.a.hi,.int .u16 x.m.sd.a.nz,.int .u16 x.m.sd.b.pd,.int .u16 x.m.sd.b.ct,.int .u8 x.m.sd.b.ld,.bool x.m.sd.b.hi,.int .u16 x.m.sd.b.nz,.int .u16 x.m.sd.c.pd,.int .u16 x.m.sd.c.ct,.int .u8 x.m.sd.c.ld,.bool x.m.sd.c.hi,.int .u16 x.m.sd.c.nz,.int .i64 x.m.sd.wt] kB Tryz.underlying37 ?_))
 refine(PA.out _).mono ?_
 rintro e w1 ⟨rfl,hb1⟩
 have hs1:=hb1.size
 go_wp2_with (first|((with_reducible show wpList _ _ _ _ _ _);refine sA 37 72 69 rfl rfl (bb) (45) #[.int .u16 s'.a.pd,.int .u16 s'.a.ct,.int .u8 s'.a.ld,.bool s'.a.hi,.int .u16 s'.a.nz,.int .u16 s'.b.pd,.int .u16 s'.b.ct,.int .u8 s'.b.ld,.bool s'.b.hi,.int .u16 s'.b.nz,.int .u16 s'.c.pd,.int .u16 s'.c.ct,.int .u8 s'.c.ld,.bool s'.c.hi,.int .u16 s'.c.nz,.int .i64 s'.wt] rfl rfl 89 (boxC V x wv) (boxC V (x.wSd s') wv) kB ?_;intro w2 hp_w2 K_w2))
 have KP:=zh ((But.of hb1 (Nat.le_refl _)).put (g:=bb) hp_w2)
 have W2:=zh (ST.out.2.1.keep (fun k hk=>KP.out.block k hk.lt (fun e=>by subst e;exact KB.out.nw kD hk)))
 have B2:Below H w0 w2:=KP.out.belowH ST.out.1 L1 kO
 have l2:bb<w2.heap.size:=K_w2.out.lt
 have sz2:w.heap.size<=w2.heap.size:=KP.out.size
 have f2:=K_w2.out.free
 have c75:w2.cell? ⟨bb,75,none⟩=some wv:=(K_w2.out.cell 75).trans (bx75 ..)
 obtain⟨ao,cp,hwv⟩:=z0a W2.out
 subst hwv
 obtain⟨i0,hi0,hz0,hz1,hz2⟩:=info_parts z0ax
 have HI:=zh (And.intro hi0 (And.intro hz0 (And.intro hz1 hz2)))
 clear hi0 hz0 hz1 hz2 hp_w2
 have wp:IntKind.i64.wrap p=p:=by rw[IntKind.wrap_i64];omega
 refine wp_region_held_drew (S:=fun W=>W.cell? ⟨bb,72,none⟩=some (.int .i64 x.m.ck)) kR ((K_w2.out.drew.cell 72).trans (bx72 ..)) (fun hS=> ?_)
 refine wpAnyH_take (i:=0) (v:= ?v0) rfl kR kR kR (fun _ _ _ h=>h) (Or.inl ⟨by rfl,?y0⟩) hS ?_
 case y0=>(intro X hSw;go_simp;try with_reducible rfl)
 try simp only[yA,yB,yC,Act.put,yD,yE,yF]
 try simp only[wp]
 refine wpAnyH_take (i:=1) (v:= ?v1) rfl kR kR kR (fun _ _ _ h=>h) (Or.inl ⟨by rfl,?y1⟩) hS ?_
 case y1=>(intro X hSw;go_simp;try with_reducible rfl)
 try simp only[yA,yB,yC,Act.put,yD,yE,yF]
 try simp only[wp]
 refine wpAnyH_take (i:=2) (v:= ?v2) rfl kR kR kR (fun _ _ _ h=>h) (Or.inl ⟨by rfl,?y2⟩) hS ?_
 case y2=>(intro X hSw;go_simp;try with_reducible rfl)
 try simp only[yA,yB,yC,Act.put,yD,yE,yF]
 try simp only[wp]
 refine wpAnyH_take (i:=3) (v:= ?v3) rfl kR kR kR (fun _ _ _ h=>h) (Or.inl ⟨by rfl,?y3⟩) hS ?_
 case y3=>(intro X hSw;go_simp;try with_reducible rfl)
 try simp only[yA,yB,yC,Act.put,yD,yE,yF]
 try simp only[wp]
 refine wpAnyH_take (i:=5) (v:= ?v5) rfl kR kR kR (fun _ _ _ h=>h) (Or.inl ⟨by rfl,?y5⟩) hS ?_
 case y5=>(intro X hSw;go_simp;try with_reducible rfl)
 try simp only[yA,yB,yC,Act.put,yD,yE,yF]
 try simp only[wp]
 refine wpAnyH_take (i:=6) (v:= ?v6) rfl kR kR kR (fun _ _ _ h=>h) (Or.inl ⟨by rfl,?y6⟩) hS ?_
 case y6=>(intro X hSw;go_simp;try with_reducible rfl)
 try simp only[yA,yB,yC,Act.put,yD,yE,yF]
 try simp only[wp]
 refine wpAnyH_take (i:=7) (v:= ?v7) rfl kR kR kR (fun _ _ _ h=>h) (Or.inl ⟨by rfl,?y7⟩) hS ?_
 case y7=>(intro X hSw;go_simp;try with_reducible rfl)
 try simp only[yA,yB,yC,Act.put,yD,yE,yF]
 try simp only[wp]
 refine wpAnyH_take (i:=8) (v:= ?v8) rfl kR kR kR (fun _ _ _ h=>h) (Or.inl ⟨by rfl,?y8⟩) hS ?_
 case y8=>(intro X hSw;go_simp;try with_reducible rfl)
 try simp only[yA,yB,yC,Act.put,yD,yE,yF]
 try simp only[wp]
 refine wpAnyH_take (i:=9) (v:= ?v9) rfl kR kR kR (fun _ _ _ h=>h) (Or.inl ⟨by rfl,?y9⟩) hS ?_
 case y9=>(intro X hSw;go_simp;try with_reducible rfl)
 try simp only[yA,yB,yC,Act.put,yD,yE,yF]
 try simp only[wp]
 refine wpAnyH_take (i:=10) (v:= ?v10) rfl kR kR kR (fun _ _ _ h=>h) (Or.inl ⟨by rfl,?y10⟩) hS ?_
 case y10=>(intro X hSw;go_simp;try with_reducible rfl)
 try simp only[yA,yB,yC,Act.put,yD,yE,yF]
 try simp only[wp]
 refine wpAnyH_take (i:=11) (v:= ?v11) rfl kR kR kR (fun _ _ _ h=>h) (Or.inl ⟨by rfl,?y11⟩) hS ?_
 case y11=>(intro X hSw;go_simp;try with_reducible rfl)
 try simp only[yA,yB,yC,Act.put,yD,yE,yF]
 try simp only[wp]
 refine wpAnyH_take (i:=12) (v:= ?v12) rfl kR kR kR (fun _ _ _ h=>h) (Or.inl ⟨by rfl,?y12⟩) hS ?_
 case y12=>(intro X hSw;go_simp;try with_reducible rfl)
 try simp only[yA,yB,yC,Act.put,yD,yE,yF]
 try simp only[wp]
 refine wpAnyH_take (i:=13) (v:= ?v13) rfl kR kR kR (fun _ _ _ h=>h) (Or.inl ⟨by rfl,?y13⟩) hS ?_
 case y13=>(intro X hSw;go_simp;try with_reducible rfl)
 try simp only[yA,yB,yC,Act.put,yD,yE,yF]
 try simp only[wp]
 have SB:Hid (Blk w2.drew bb (boxC V (x.wSd s') (.slice ao x.ws.length cp)) 89):=zh K_w2.out.drew
 have SW:Hid (Wrs w2.drew H (.slice ao x.ws.length cp) x.ws):=zh (World.ownsRow.drew W2.out)
 have SK:Hid (Kp 0 (·=bb) w w2.drew):=zh KP.out.kp0.drew
 have SH:Hid (Below H w0 w2.drew):=zh B2.drew
 have c75':w2.drew.cell? ⟨bb,75,none⟩=some (.slice ao x.ws.length cp):=c75
 have SZ:Hid (w2.drew.heap.size=w2.heap.size):=zh rfl
 clear K_w2 W2 KP B2 c75 f2
 obtain⟨W,hW⟩:∃W,W=w2.drew:=⟨_,rfl⟩
 have lW:bb<W.heap.size:=by rw[hW,SZ.out];exact l2
 have lHW:H<=W.heap.size:=by omega
 rw[<-hW]at SB SW SK SH c75' hS⊢
 clear hW SZ
 refine wpAnyH_ready (rs:=[4,14]) kR kS ?_
 refine AllReadyH.cons rfl (fun K hK=> ?_) (AllReadyH.cons rfl (fun K hK=> ?_) AllReadyH.nil)
 ·go_simp
  refine hK.out _ _ hS (fun hS=> ?_)
  clear hK K
  try simp only[yA,yB,yC,Act.put,yD,yE,yF]
  refine rH 14 fun K hK=> ?_
  go_simp
  refine hK.out _ _ ((SB.out.alloc _).cell 72 |>.trans (bx72 ..)) (fun hS=> ?_)
  clear hK K
  try simp only[yA,yB,yC,Act.put,yD,yE,yF]
  refine rH 15 fun K hK=> ?_
  rw[if_pos (by rfl)]
  refine wp_append_own _ (.tmp 77) (.tmp 87) 44 rfl H 71 i0 (.agg #[.int .i64 0,.int .i64 0,.int .u8 0]) 3 24 Tryz.underlying44 HI.out.1 HI.out.2.1 HI.out.2.2.1 HI.out.2.2.2 rfl kD _ _ _ rfl (World.ownsRow.alloc SW.out _) ⟨W.heap.size,0,none⟩ 1 1 [.int .i64 x.m.ck,.int .i64 p,.int .u8 b] rfl rfl (z3Q W x.m.ck p b) (z6R x.m.ck p b) (by unfold maxLen;omega) kO (by simp;omega) ?_
  intro v' w5 hown hgrow _
  obtain⟨a',q',ev'⟩:=z0a hown
  subst ev'
  have hv':(Value.slice ao x.ws.length cp).ownBlock≠some bb:=fun e=>SB.out.nw kD (SW.out.lt e).2
  have B5:Hid (Blk w5 bb (boxC V (x.wSd s') (.slice ao x.ws.length cp)) 89):=zh (by
   unfold Blk
   rw[hgrow.block bb (by simp;omega) (fun e=>hv' e.symm)]
   exact SB.out.alloc _)
  have K5:Hid (Kp 0 (·=bb) w w5):=zh ((SK.out.alloc _).grown hgrow (fun g hg=>(SW.out.lt hg).2.alloc _))
  have H5:Hid (Below H w0 w5):=zh (z0w (Below.alloc SH.out lHW _) (by simp;omega) hgrow (World.ownsRow.alloc SW.out _) (Nat.le_refl _))
  have O5:=zh hown
  have c75v:w5.cell? ⟨bb,75,none⟩=some (.slice ao x.ws.length cp):=(B5.out.cell 75).trans (bx75 ..)
  have f5:=B5.out.free
  refine hK.out _ _ ((B5.out.cell 72).trans (bx72 ..)) (fun hS=> ?_)
  clear hK K hown hgrow
  try simp only[yA,yB,yC,Act.put,yD,yE,yF]
  refine wpAnyH_take (i:=16) (v:= ?v16a) rfl kR kR kR (fun _ _ _ h=>h) (Or.inl ⟨by rfl,?y16a⟩) hS ?_
  case y16a=>(intro X hSw;go_simp;try with_reducible rfl)
  try simp only[yA,yB,yC,Act.put,yD,yE,yF]
  refine wpAnyH_take (i:=17) (v:= ?v17a) rfl kR kR kR (fun _ _ _ h=>h) (Or.inl ⟨by rfl,?y17a⟩) hS ?_
  case y17a=>(intro X hSw;go_simp;try with_reducible rfl)
  try simp only[yA,yB,yC,Act.put,yD,yE,yF]
  refine rH 18 fun K hK=> ?_
  go_simp
  have B6:=zh (Blk.set B5.out (bs75 V (x.wSd s') (.slice ao x.ws.length cp) (.slice a' (x.ws.length+1) q')))
  refine hK.out _ _ ((B6.out.cell 72).trans (bx72 ..)) (fun hS=> ?_)
  clear hK K
  refine wpAnyH_done kR ?_ _
  have KF:Kp 0 (·=bb) w (w5.setCell ⟨bb,75,none⟩ (.slice a' (x.ws.length+1) q')):=K5.out.setCell (Or.inr rfl)
  have RF:RelX 89 w0 V bb H (w5.setCell ⟨bb,75,none⟩ (.slice a' (x.ws.length+1) q')) (snd2 x s' ⟨x.m.ck,p,b⟩):=by
   refine RelX.box2 L ⟨ST.out.2.2.1,ST.out.2.2.2.1⟩ kD KF (Below.setCell (p:=⟨bb,75,none⟩) H5.out L1 _) B6.out rfl ?_ (inSd ST.out.2.2.2.2 HP.out.1 HP.out.2)
   show World.ownsRow _ _ _ _ _ (x.ws++[_]).length (wrC (x.ws++[_]))
   rw[List.length_append,z4q]
   exact z0p O5.out (fun g hg e=>B5.out.nw kD (by have:=(O5.out.lt g hg);exact z5v O5.out (by rw[hg,e])))
  have hF:=zh (And.intro RF (KF.up L2))
  clear RF KF
  go_wp2
  all_goals exact bodyPost_end (results_none rfl _ _ _) rfl ⟨rfl,hF.out⟩
 ·go_simp
  refine hK.out _ _ ((SB.out.alloc _).cell 72 |>.trans (bx72 ..)) (fun hS=> ?_)
  clear hK K
  try simp only[yA,yB,yC,Act.put,yD,yE,yF]
  have c75'':(W.alloc (.cells #[.int .i64 x.m.ck,.int .i64 p,.int .u8 b] 71)).cell? ⟨bb,75,none⟩=some (.slice ao x.ws.length cp):=(SB.out.alloc _).cell 75 |>.trans (bx75 ..)
  refine rH 4 fun K hK=> ?_
  go_simp
  refine hK.out _ _ hS (fun hS=> ?_)
  clear hK K
  try simp only[yA,yB,yC,Act.put,yD,yE,yF]
  refine rH 15 fun K hK=> ?_
  rw[if_pos (by rfl)]
  refine wp_append_own _ (.tmp 77) (.tmp 87) 44 rfl H 71 i0 (.agg #[.int .i64 0,.int .i64 0,.int .u8 0]) 3 24 Tryz.underlying44 HI.out.1 HI.out.2.1 HI.out.2.2.1 HI.out.2.2.2 rfl kD _ _ _ rfl (World.ownsRow.alloc SW.out _) ⟨W.heap.size,0,none⟩ 1 1 [.int .i64 x.m.ck,.int .i64 p,.int .u8 b] rfl rfl (z3Q W x.m.ck p b) (z6R x.m.ck p b) (by unfold maxLen;omega) kO (by simp;omega) ?_
  intro v' w5 hown hgrow _
  obtain⟨a',q',ev'⟩:=z0a hown
  subst ev'
  have hv':(Value.slice ao x.ws.length cp).ownBlock≠some bb:=fun e=>SB.out.nw kD (SW.out.lt e).2
  have B5:Hid (Blk w5 bb (boxC V (x.wSd s') (.slice ao x.ws.length cp)) 89):=zh (by
   unfold Blk
   rw[hgrow.block bb (by simp;omega) (fun e=>hv' e.symm)]
   exact SB.out.alloc _)
  have K5:Hid (Kp 0 (·=bb) w w5):=zh ((SK.out.alloc _).grown hgrow (fun g hg=>(SW.out.lt hg).2.alloc _))
  have H5:Hid (Below H w0 w5):=zh (z0w (Below.alloc SH.out lHW _) (by simp;omega) hgrow (World.ownsRow.alloc SW.out _) (Nat.le_refl _))
  have O5:=zh hown
  have c75v:w5.cell? ⟨bb,75,none⟩=some (.slice ao x.ws.length cp):=(B5.out.cell 75).trans (bx75 ..)
  have f5:=B5.out.free
  refine hK.out _ _ ((B5.out.cell 72).trans (bx72 ..)) (fun hS=> ?_)
  clear hK K hown hgrow
  try simp only[yA,yB,yC,Act.put,yD,yE,yF]
  refine wpAnyH_take (i:=16) (v:= ?v16b) rfl kR kR kR (fun _ _ _ h=>h) (Or.inl ⟨by rfl,?y16b⟩) hS ?_
  case y16b=>(intro X hSw;go_simp;try with_reducible rfl)
  try simp only[yA,yB,yC,Act.put,yD,yE,yF]
  refine wpAnyH_take (i:=17) (v:= ?v17b) rfl kR kR kR (fun _ _ _ h=>h) (Or.inl ⟨by rfl,?y17b⟩) hS ?_
  case y17b=>(intro X hSw;go_simp;try with_reducible rfl)
  try simp only[yA,yB,yC,Act.put,yD,yE,yF]
  refine rH 18 fun K hK=> ?_
  go_simp
  have B6:=zh (Blk.set B5.out (bs75 V (x.wSd s') (.slice ao x.ws.length cp) (.slice a' (x.ws.length+1) q')))
  refine hK.out _ _ ((B6.out.cell 72).trans (bx72 ..)) (fun hS=> ?_)
  clear hK K
  refine wpAnyH_done kR ?_ _
  have KF:Kp 0 (·=bb) w (w5.setCell ⟨bb,75,none⟩ (.slice a' (x.ws.length+1) q')):=K5.out.setCell (Or.inr rfl)
  have RF:RelX 89 w0 V bb H (w5.setCell ⟨bb,75,none⟩ (.slice a' (x.ws.length+1) q')) (snd2 x s' ⟨x.m.ck,p,b⟩):=by
   refine RelX.box2 L ⟨ST.out.2.2.1,ST.out.2.2.2.1⟩ kD KF (Below.setCell (p:=⟨bb,75,none⟩) H5.out L1 _) B6.out rfl ?_ (inSd ST.out.2.2.2.2 HP.out.1 HP.out.2)
   show World.ownsRow _ _ _ _ _ (x.ws++[_]).length (wrC (x.ws++[_]))
   rw[List.length_append,z4q]
   exact z0p O5.out (fun g hg e=>B5.out.nw kD (by have:=(O5.out.lt g hg);exact z5v O5.out (by rw[hg,e])))
  have hF:=zh (And.intro RF (KF.up L2))
  clear RF KF
  go_wp2
  all_goals exact bodyPost_end (results_none rfl _ _ _) rfl ⟨rfl,hF.out⟩
end Go.Proofs.YtkoocfcnfolkhaaGreatDoor
/- The other processor's bus is one. Conditions: the machine lies in a box. -/
namespace Go.Proofs.YtkoocfcnfolkhaaGreatDoor
open Go.RowKit Go.Mq
theorem z5t{w0:World}{V:Nat->Value}{bb B H:Nat}(L:LiesX V bb B H)(w:World)(x:Bx)(a b:Int)(ha:U16 a)(hb:U8 b)(hroom:x.ws.length<1000000)(h:RelX 89 w0 V bb H w x)(hB:B<=w.heap.size):
  Calls Tryz.prog 105 #[.pointer (some ⟨bb,0,none⟩),.int .u16 a,.int .u8 b] w fun e w'=>e= .returned (.tuple #[])/\RelX 89 w0 V bb H w' (auxP x a b)/\Kp B NoX w w':=by
 by_cases c1:32768<=a/\a<49152
 ·exact z0aS L w x a b ha hb hroom h hB c1.1 c1.2
 ·by_cases c2:49152<=a/\a<53248
  ·cases hg:x.m.gr
   ·exact ap_no L w x a b ha hb hroom h hB (Or.inr (Or.inl ⟨c2.1,c2.2,hg⟩))
   ·exact z0aR L w x a b ha hb hroom h hB c2.1 c2.2 hg
  ·by_cases hp:isPort a=true
   ·by_cases c3:a%32<24
    ·exact z8g L w x a b ha hb hroom h hB hp c3
    ·by_cases c4:a%32=24
     ·exact z9Q L w x a b ha hb hroom h hB hp c4
     ·exact ap_no L w x a b ha hb hroom h hB (Or.inr (Or.inr ⟨hp,by omega⟩))
   ·refine ap_no L w x a b ha hb hroom h hB (Or.inl ?_)
    unfold isPort at hp
    simp at hp
    unfold U16 at ha
    omega
theorem z5R(x:Bx)(a b:Int):roomX x<=roomX (auxP x a b)+1:=by
 have:(auxP x a b).ws.length<=x.ws.length+1:=by
  unfold auxP
  repeat' split
  all_goals simp
 unfold roomX
 omega
theorem z4T(x:Bx)(a:Int):(auxGS x a).ws=x.ws:=by
 unfold auxGS
 split<;>rfl
theorem z8C{w0:World}{V:Nat->Value}{bb B H:Nat}(L:LiesX V bb B H):
  BusOk Tryz.prog 104 105 #[.pointer (some ⟨bb,0,none⟩)] #[] #[.pointer (some ⟨bb,0,none⟩)] #[] busA (RelX 89 w0 V bb H) B where
 stable:=fun w w' m h k=>h.stable L k
 byte:=fun m a=>by
  show U8 (auxG m.m a%256)
  unfold U8
  omega
 roomg:=fun m a=>by
  show roomX m<=roomX (auxGS m a)
  unfold roomX
  rw[z4T]
  exact Nat.le_refl _
 roomp:=fun m a n=>z5R m a n
 eg:=fun args w=>by kernel_rfl
 ep:=fun args w=>by kernel_rfl
 get:=fun w m a ha h hB=>(z5u L w m a ha h hB).mono fun e w' ⟨he,hr,hk⟩=>⟨he.trans (by show _=Ending.returned (.int .u8 (auxG m.m a%256));rw[z8s (z0aO h.inn a)]),hr,hk⟩
 put:=fun w m a n ha hn hr h hB=>z5t L w m a n ha hn (by have:0<1000000-m.ws.length:=hr;omega) h hB
theorem z2w(bb:Nat)(w:World):
  Calls Tryz.prog 66 #[.pointer (some ⟨bb,0,none⟩)] w fun e w'=>e= .returned (.agg #[.func (.func 104) #[.pointer (some ⟨bb,0,none⟩)] #[],.func (.func 105) #[.pointer (some ⟨bb,0,none⟩)] #[]])/\Below w.heap.size w w':=by
 go_enter Tryz.func66,Tryz.ntmps66
 go_wp2_with (first|((with_reducible show wpList _ _ _ _ _ _);refine sW 123 2 7 rfl rfl (w.heap.size) #[.func (.func 104) #[.pointer (some ⟨bb,0,none⟩)] #[],.func (.func 105) #[.pointer (some ⟨bb,0,none⟩)] #[]] rfl rfl #[.nilFunc,.nilFunc] kB ?_;intro w2 hp_w2 K_w2))
 exact bodyPost_ret (results_cell_row Tryz.results66 _ _ (w.heap.size) 123 _ (0,0) _ rfl K_w2.out Tryz.underlying123 rfl kR) rfl ⟨rfl,kL⟩
theorem z0U(bb:Nat)(w:World):
  Calls Tryz.prog 50 #[.pointer (some ⟨bb,0,none⟩)] w fun e w'=>e= .returned (.agg #[.func (.func 75) #[.pointer (some ⟨bb,0,none⟩)] #[],.func (.func 76) #[.pointer (some ⟨bb,0,none⟩)] #[]])/\Below w.heap.size w w':=by
 go_enter Tryz.func50,Tryz.ntmps50
 go_wp2_with (first|((with_reducible show wpList _ _ _ _ _ _);refine sW 123 2 7 rfl rfl (w.heap.size) #[.func (.func 75) #[.pointer (some ⟨bb,0,none⟩)] #[],.func (.func 76) #[.pointer (some ⟨bb,0,none⟩)] #[]] rfl rfl #[.nilFunc,.nilFunc] kB ?_;intro w2 hp_w2 K_w2))
 exact bodyPost_ret (results_cell_row Tryz.results50 _ _ (w.heap.size) 123 _ (0,0) _ rfl K_w2.out Tryz.underlying123 rfl kR) rfl ⟨rfl,kL⟩
end Go.Proofs.YtkoocfcnfolkhaaGreatDoor
/- Half of a word that is written; a transfer. Conditions: the machine lies in a box. -/
namespace Go.Proofs.YtkoocfcnfolkhaaGreatDoor
open Go.RowKit Go.Mq
theorem z1N(g o:Nat)(v b:Int)(hv:U16 v)(hb:U8 b)(w:World)(cv:w.cell? ⟨g,o,none⟩=some (.int .u16 v))(fv:w.frozen? ⟨g,o,none⟩=false):
  Calls Tryz.prog 111 #[.pointer (some ⟨g,o,none⟩),.bool true,.int .u8 b] w fun e w'=>e= .returned (.tuple #[])/\w.setCell ⟨g,o,none⟩ (.int .u16 (hi16 v b))=w':=by
 have a1:=z1H v hv
 have a2:=z1R v hv
 unfold U8 at hb
 unfold U16 at hv
 have a3:=z1K (v/256) b kO kO hb.1 hb.2
 have a4:=z1j b (v%256) hb.1 hb.2 kO kO
 have w1:IntKind.u16.wrap (b*256)=b*256:=by rw[z0l];omega
 have w2:IntKind.u16.wrap b=b:=by rw[z0l];omega
 obtain⟨hb0,hb1⟩:=hb
 obtain⟨hv0,hv1⟩:=hv
 unfold hi16
 go_enter Tryz.func111,Tryz.ntmps111
 go_wp2
 refine bodyPost_end (results_none rfl _ _ _) rfl ⟨rfl,?_⟩
 first|rfl|simp[a1,a2,a3,a4,w1,w2]
theorem z1M(g o:Nat)(v b:Int)(hv:U16 v)(hb:U8 b)(w:World)(cv:w.cell? ⟨g,o,none⟩=some (.int .u16 v))(fv:w.frozen? ⟨g,o,none⟩=false):
  Calls Tryz.prog 111 #[.pointer (some ⟨g,o,none⟩),.bool false,.int .u8 b] w fun e w'=>e= .returned (.tuple #[])/\w.setCell ⟨g,o,none⟩ (.int .u16 (lo16 v b))=w':=by
 have a1:=z1H v hv
 have a2:=z1R v hv
 unfold U8 at hb
 unfold U16 at hv
 have a3:=z1K (v/256) b kO kO hb.1 hb.2
 have a4:=z1j b (v%256) hb.1 hb.2 kO kO
 have w1:IntKind.u16.wrap (b*256)=b*256:=by rw[z0l];omega
 have w2:IntKind.u16.wrap b=b:=by rw[z0l];omega
 obtain⟨hb0,hb1⟩:=hb
 obtain⟨hv0,hv1⟩:=hv
 unfold lo16
 go_enter Tryz.func111,Tryz.ntmps111
 go_wp2
 refine bodyPost_end (results_none rfl _ _ _) rfl ⟨rfl,?_⟩
 first|rfl|simp[a1,a2,a3,a4,w1,w2]
theorem z0ao(m:Mach)(k:Nat):(mvM m k).fm=m.fm/\(mvM m k).to=m.to:=by
 induction k with
 |zero=>exact⟨rfl,rfl⟩
 |succ k ih=>exact ih
def mvX(x:Bx)(k:Nat):Bx:={x with m:=mvM x.m k}
def mvY(x:Bx)(k:Nat):Bx:={x with m:=mvM x.m k,dl:=wrap64 (x.dl+2*k)}
theorem z7w{w0:World}{V:Nat->Value}{bb B H:Nat}(L:LiesX V bb B H)(w:World)(x:Bx)(n:Nat)(hn:n<=255)(h:RelX 89 w0 V bb H w x)(hB:B<=w.heap.size):
  Calls Tryz.prog 113 #[.pointer (some ⟨bb,0,none⟩),.int .u8 n] w fun e w'=>e= .returned (.tuple #[])/\RelX 89 w0 V bb H w' (mvY x n)/\Kp B NoX w w':=by
 have L2:=L.hi
 have hn0:(n:Int)<=255:=by omega
 have hw0:IntKind.u16.wrap (n:Int)=n:=by rw[z0l];omega
 have HH:=zh h
 clear h
 have lb:bb<w.heap.size:=by omega
 have LL:=zh L
 go_enter Tryz.func113,Tryz.ntmps113
 go_wp2_with fail
 go_loopw [12] (fun i wr=>∃k:Nat,k<=n/\i= .int .u16 k/\Hid (RelX 89 w0 V bb H wr (mvX x k))/\Kp B NoX w wr) (fun i _=>n-(intOf i).toNat)
 case atStart=>exact⟨0,Nat.zero_le _,rfl,HH,Kp.refl _ _ _⟩
 case round=>
  obtain⟨k,hk,rfl,hr,hkp⟩:=hrel
  have hs:=hkp.size
  by_cases hlt:k<n
  ·have hlti:(k:Int)<n:=by omega
   have hf:=z0ao x.m k
   obtain⟨h1,⟨wv,hbx,hws⟩,hm,hft,hi⟩:=hr.out
   have lb1:=hbx.lt
   have fb:=hbx.free
   have c65:wr.cell? ⟨bb,65,none⟩=some (.int .u16 x.m.fm):=by rw[<-hf.1];exact(hbx.cell 65).trans (bx65 ..)
   have c66:wr.cell? ⟨bb,66,none⟩=some (.int .u16 x.m.to):=by rw[<-hf.2];exact(hbx.cell 66).trans (bx66 ..)
   have c34:wr.cell? ⟨bb,34,none⟩=some (V 4):=(hbx.cell 34).trans (bx34 ..)
   obtain⟨q,hq⟩:∃q:Nat,(x.m.to+k)%256=(q:Int):=⟨((x.m.to+k)%256).toNat,by omega⟩
   have hl4:=hft.l4
   obtain⟨g,cap,hv,hg,hc,hz,hl⟩:=hm.at 4 kO q (by rw[hl4];omega)
   rw[hv,hl4]at c34
   have q1:(q:Int)<256:=by omega
   have w1:IntKind.u16.wrap (x.m.fm+k)=(x.m.fm+k)%65536:=z0l _
   have w2:bits .and .u16 (IntKind.u16.wrap (x.m.to+k)) 255=(q:Int):=by rw[z0l,z1H _ (by unfold U16;omega),<-hq];omega
   have w3:IntKind.u16.wrap ((k:Int)+1)=(k:Int)+1:=by rw[z0l];omega
   have PL:=zh (z3E wr (mvX x k) ((x.m.fm+k)%65536) (by unfold U16;omega) hr.out)
   obtain⟨v,hvv⟩:∃v,v=plainF (mvM x.m k) ((x.m.fm+k)%65536):=⟨_,rfl⟩
   have hv8:U8 v:=by rw[hvv];exact z3g hi _
   have PL2:Hid (Calls Tryz.prog 107 #[.pointer (some ⟨bb,0,none⟩),.int .u16 ((x.m.fm+k)%65536)] wr fun e w'=>e= .returned (.int .u8 v)/\Drew wr w'):=zh (by rw[hvv];exact PL.out)
   have E1:Hid (∀W,Drew wr W->RelX 89 w0 V bb H (W.setCell ⟨g,q,none⟩ (.int .u8 v)) (mvX x (k+1))):=zh (fun W hW=>by
    have:=RelX.poke LL.out (hr.out.stable LL.out (z0S hW)) 4 kO q v hv8 g hg kD
    rw[show mvX x (k+1)={(mvX x k)with m:={(mvX x k).m with mem:=updM (mvX x k).m.mem 4 (((mvX x k).m.mem 4).set q v)}}from by
     unfold mvX
     rw[show mvM x.m (k+1)=poke (mvM x.m k) 4 ((x.m.to+k)%256).toNat (plainF (mvM x.m k) ((x.m.fm+k)%65536))from rfl,hq,<-hvv]
     rfl]
    exact this)
   have hgB:=(LL.out.own 4 g kO hg).2.1
   have hrK:=zh hkp
   clear hbx hws hm hft hi h1 hf hv hl4 hg hvv hq PL hkp L
   go_wp2_with fail
   refine PL2.out.mono ?_
   rintro e w4 ⟨rfl,hd⟩
   have c34':w4.cell? ⟨bb,34,none⟩=some (.slice (some ⟨g,0,none⟩) 256 cap):=(hd.cell _).trans c34
   have c66':w4.cell? ⟨bb,66,none⟩=some (.int .u16 x.m.to):=(hd.cell _).trans c66
   have hc':w4.cell? ⟨g,q,none⟩=some (.int .u8 (((mvX x k).m.mem 4).getD q 0)):=(hd.cell _).trans hc
   have hz':w4.frozen? ⟨g,q,none⟩=false:=(hd.frozen _).trans hz
   have E2:=zh (E1.out w4.drew (hd.drewN 1))
   have hdK:Kp B NoX w w4:=hrK.out.trans (z0u hd)
   clear hd c34 c66 hc hz E1 c65
   go_wp2_with fail
   go_region
   go_wp2
   go_roundw
   case rel=>exact⟨k+1,by omega,by go_num,E2,(by
    have:=hdK.size
    exact Kp.trans hdK (Kp.trans (z0u (B:=B) ((Drew.refl w4).drewN 1)) (((But.refl g w4.drew).setCell rfl _).kp hgB)))⟩
   case measure=>simp[intOf];omega
  ·have hkn:k=n:=by omega
   subst hkn
   obtain⟨h1,⟨wv,hbx,hws⟩,hm,hft,hi⟩:=hr.out
   have lb1:=hbx.lt
   have fb:=hbx.free
   have c76:wr.cell? ⟨bb,76,none⟩=some (.int .i64 x.dl):=(hbx.cell 76).trans (bx76 ..)
   have KB:=zh hbx
   have ST:=zh (And.intro h1 (And.intro hws (And.intro hm (And.intro hft hi))))
   clear hbx hws hm hft hi h1
   go_wp2
   exact bodyPost_end (results_none rfl _ _ _) rfl ⟨rfl,RelX.box1 LL.out ST.out KB.out ((But.refl bb wr).setCell rfl _) kD (Blk.set KB.out (bs76 V (mvX x k) wv (wrap64 (x.dl+2*k)))) rfl rfl ST.out.2.2.2.2,hkp.trans (((But.refl bb wr).setCell rfl _).kp L2)⟩
end Go.Proofs.YtkoocfcnfolkhaaGreatDoor
/- What the main processor writes. Conditions: the machine lies in a box. -/
namespace Go.Mq
open Go.RowKit
theorem z0K{P:Program}{o:Oper}{a:Act}{w:World}{K:Act->World->Prop}{Q:Exit->Act->World->Prop}(ty:TypeId)(x y:Operand)(ho:o.op= .store ty x y)
  (g off:Nat)(cells:Array Value)(hx:a.eval x= .pointer (some ⟨g,off,none⟩))(hy:a.eval y= .agg cells)
  (t:TypeId)(old new:Array Value)(hg:Blk w g old t)(hi:(P.info? ty).map (·.size)=some cells.size)
  (hfit:off+cells.size<=old.size)(h1:cells.all (·.oneCell')=true)(hnew:(old.toList.take off++cells.toList++old.toList.drop (off+cells.size)).toArray=new)
  (h:∀w',Put g w w'->Hid (Blk w' g new t)->K (a.put o.dst undef) w'):o.wp P a w K Q:=by
 have hst:=run_storeCells_at P g off t cells.toList 0 old w hg (by simpa using hfit) (fun v hv=>by
  rw[Array.all_eq_true_iff_forall_mem]at h1
  exact h1 v (by simpa using hv))
 simp only[Nat.add_zero,Array.length_toList]at hst
 rw[hnew]at hst
 have hK2:=h (w.setRow g new) (z0b w g new) (zh (setRow_heap w g old new t (0,0) hg))
 cases hq:P.info? ty with
 |none=>simp[hq]at hi
 |some i=>
  have hs:i.size=cells.size:=by simpa [hq]using hi
  unfold Oper.wp execOp
  simp[ho,hx,hy,Instr.storeAt,Instr.sureAddr,storeVar,Value.cells,sizeOf,typeInfo,hq,hs,hst]
  exact hK2
end Go.Mq
namespace Go.Proofs.YtkoocfcnfolkhaaGreatDoor
open Go.RowKit Go.Mq
theorem z7u{w0:World}{V:Nat->Value}{bb B H:Nat}(L:LiesX V bb B H)(w:World)(x:Bx)(a b:Int)(ha:U16 a)(hb:U8 b)(h:RelX 89 w0 V bb H w x)(hB:B<=w.heap.size)(hp:isPort a=false):Calls Tryz.prog 76 #[.pointer (some ⟨bb,0,none⟩),.int .u16 a,.int .u8 b] w fun e w'=>e= .returned (.tuple #[])/\RelX 89 w0 V bb H w' (mainP x a b)/\Kp B NoX w w':=by
 have hh:=zh h
 have hp':=hp
 unfold isPort at hp'
 simp at hp'
 obtain⟨h1,⟨wv,hbx,hws⟩,hm,hf,hi⟩:=h
 obtain⟨a0,a1⟩:=ha
 have lb:=hbx.lt
 have fb:=hbx.free
 have c32:w.cell? ⟨bb,32,none⟩=some (V 2):=(hbx.cell 32).trans (bx32 ..)
 have c34:w.cell? ⟨bb,34,none⟩=some (V 4):=(hbx.cell 34).trans (bx34 ..)
 have e2:=hf.l2
 have e4:=hf.l4
 clear hbx hws hi h1 hf
 unfold mainP
 by_cases c1:32768<=a/\a<49152
 ·rw[if_pos c1]
  obtain⟨d1,d2⟩:=c1
  have d3:a<53248:=by omega
  obtain⟨k,hk⟩:∃k:Nat,a%128=(k:Int):=⟨(a%128).toNat,by omega⟩
  obtain⟨g,cap,hv,hg,hc,hz,hl⟩:=hm.at 2 kO k kO
  rw[hv,e2]at c32
  have k1:(k:Int)<128:=by omega
  have RP:=zh (RelX.poke L hh.out 2 kO k b hb g hg kD)
  have hgB:=(L.own 2 g kO hg).2.1
  rw[hk]
  simp only[Int.toNat_natCast]
  clear hv e2 e4 hm hg hh hp hp' c34
  go_enter Tryz.func76,Tryz.ntmps76
  go_wp2
  all_goals exact bodyPost_ret (results_none rfl _ _ _) rfl ⟨rfl,RP.out,((But.refl g w).setCell rfl _).kp hgB⟩
 ·rw[if_neg c1]
  by_cases c2:49152<=a/\a<53248
  ·rw[if_pos c2]
   obtain⟨d1,d2⟩:=c2
   have d3:¬a<49152:=by omega
   have d4:32768<=a:=by omega
   obtain⟨k,hk⟩:∃k:Nat,a%256=(k:Int):=⟨(a%256).toNat,by omega⟩
   obtain⟨g,cap,hv,hg,hc,hz,hl⟩:=hm.at 4 kO k kO
   rw[hv,e4]at c34
   have k1:(k:Int)<256:=by omega
   have hk':bits .and .u16 a 255=(k:Int):=by rw[z1H a ⟨a0,a1⟩,hk]
   have RP:=zh (RelX.poke L hh.out 4 kO k b hb g hg kD)
   have hgB:=(L.own 4 g kO hg).2.1
   rw[hk]
   simp only[Int.toNat_natCast]
   clear hv e2 e4 hm hg hh hp hp' c32 hk c1
   go_enter Tryz.func76,Tryz.ntmps76
   go_wp2
   all_goals exact bodyPost_ret (results_none rfl _ _ _) rfl ⟨rfl,RP.out,((But.refl g w).setCell rfl _).kp hgB⟩
  ·rw[if_neg c2,hp,if_neg Bool.false_ne_true]
   have d:a<32768\/57344<=a:=by omega
   clear e2 e4 hm c32 c34 hp hp' c1 c2
   rcases d with d|d
   ·have d1:¬32768<=a:=by omega
    have d2:¬49152<=a:=by omega
    have d3:a<53248:=by omega
    go_enter Tryz.func76,Tryz.ntmps76
    go_wp2
    all_goals exact bodyPost_ret (results_none rfl _ _ _) rfl ⟨rfl,hh.out,Kp.refl _ _ _⟩
   ·have d1:¬a<49152:=by omega
    have d2:¬a<53248:=by omega
    go_enter Tryz.func76,Tryz.ntmps76
    go_wp2
    all_goals exact bodyPost_ret (results_none rfl _ _ _) rfl ⟨rfl,hh.out,Kp.refl _ _ _⟩
end Go.Proofs.YtkoocfcnfolkhaaGreatDoor
/- The main processor writes to a port. Conditions: the machine lies in a box. -/
namespace Go.Proofs.YtkoocfcnfolkhaaGreatDoor
open Go.RowKit Go.Mq
theorem inTm{m:Mach}(h:m.In){t:Tim}(ht:t.Ok):({m with tm:=t}:Mach).In:=⟨h.mc,h.ac,h.mem,h.p0,h.p1,ht,h.sd,h.wt,h.ln,h.pt,h.fr,h.fm,h.to,h.m0,h.m1,h.ck,h.mr,h.ar⟩
theorem inFm{m:Mach}(h:m.In){n:Int}(hn:U16 n):({m with fm:=n}:Mach).In:=⟨h.mc,h.ac,h.mem,h.p0,h.p1,h.tm,h.sd,h.wt,h.ln,h.pt,h.fr,hn,h.to,h.m0,h.m1,h.ck,h.mr,h.ar⟩
theorem inTo{m:Mach}(h:m.In){n:Int}(hn:U16 n):({m with «to»:=n}:Mach).In:=⟨h.mc,h.ac,h.mem,h.p0,h.p1,h.tm,h.sd,h.wt,h.ln,h.pt,h.fr,h.fm,hn,h.m0,h.m1,h.ck,h.mr,h.ar⟩
theorem inBr{m:Mach}(h:m.In)(c:Bool):({m with bm:={m.bm with rg:=c}}:Mach).In:=⟨h.mc,h.ac,h.mem,h.p0,h.p1,h.tm,h.sd,h.wt,h.ln,h.pt,h.fr,h.fm,h.to,h.m0,h.m1,h.ck,h.mr,h.ar⟩
theorem inM0{m:Mach}(h:m.In){n:Int}(hn:U8 n)(c:Bool):({m with m0:=n,rg:=c}:Mach).In:=⟨h.mc,h.ac,h.mem,h.p0,h.p1,h.tm,h.sd,h.wt,h.ln,h.pt,h.fr,h.fm,h.to,hn,h.m1,h.ck,h.mr,h.ar⟩
theorem inGH{m:Mach}(h:m.In)(c d:Bool):({m with gr:=c,hd:=d}:Mach).In:=⟨h.mc,h.ac,h.mem,h.p0,h.p1,h.tm,h.sd,h.wt,h.ln,h.pt,h.fr,h.fm,h.to,h.m0,h.m1,h.ck,h.mr,h.ar⟩
theorem inAc{m:Mach}(h:m.In){c:Cp}(hc:c.In){n:Int}(hn:I64 n):({m with ac:=c,ar:=n}:Mach).In:=⟨h.mc,hc,h.mem,h.p0,h.p1,h.tm,h.sd,h.wt,h.ln,h.pt,h.fr,h.fm,h.to,h.m0,h.m1,h.ck,h.mr,hn⟩
theorem rl_ok{t:Tim}(h:t.Ok){n:Int}(hn:U16 n):({t with rl:=n}:Tim).Ok:=⟨hn,h.ct⟩
theorem rg_ok{t:Tim}(h:t.Ok)(c:Bool):({t with rg:=c}:Tim).Ok:=⟨h.rl,h.ct⟩
theorem z3S(b:Int)(h:U8 b):bits .and .u8 b 1=b%2:=by
 have:=bits_mask .u8 8 kD (fun n h h'=>by rw[wrap8];omega) 1 kO b h.1 (by unfold U8 at h;omega)
 simpa using this
theorem z3R(b:Int)(h:U8 b):bits .and .u8 b 2=b/2%2*2:=by
 obtain⟨k,rfl⟩:=Int.eq_ofNat_of_zero_le h.1
 have hk:k<256:=by unfold U8 at h;omega
 have:∀k:Nat,k<256->bits .and .u8 (k:Int) 2=(k:Int)/2%2*2:=by decide
 exact this k hk
theorem mp_2{w0:World}{V:Nat->Value}{bb B H:Nat}(L:LiesX V bb B H)(w:World)(x:Bx)(a b:Int)(ha:U16 a)(hb:U8 b)(h:RelX 89 w0 V bb H w x)(hB:B<=w.heap.size)(hp:isPort a=true)(hk:a%32=2):Calls Tryz.prog 76 #[.pointer (some ⟨bb,0,none⟩),.int .u16 a,.int .u8 b] w fun e w'=>e= .returned (.tuple #[])/\RelX 89 w0 V bb H w' (mainP x a b)/\Kp B NoX w w':=by
 have d:53248<=a/\a<57344:=by unfold isPort at hp;simpa using hp
 obtain⟨d1,d2⟩:=d
 have e1:mainP x a b=x.wTm {x.m.tm with rl:=hi16 x.m.tm.rl b}:=by unfold mainP;rw[if_neg kO,if_neg kO,hp,if_pos rfl,hk];unfold portP;simp only[reduceIte,Int.reduceEq];try rfl
 rw[e1]
 have k1:bits .and .u16 a 31=2:=by rw[z0q a ha,hk]
 have k2:bits .and .u16 a 1=0:=by rw[and1 a ha];omega
 have I:=h.inn
 have HI:=zh (inTm I (rl_ok I.tm (z2Q (n:=x.m.tm.rl) hb)))
 have U:=(by first|exact I.tm.rl|exact I.fm|exact I.to:U16 (x.m.tm.rl))
 obtain⟨h1,⟨wv,hbx,hws⟩,hm,hf,hi⟩:=h
 have L2:=L.hi
 have lb:=hbx.lt
 have fb:=hbx.free
 have c0:w.cell? ⟨bb,41,none⟩=some (.int .u16 x.m.tm.rl):=(hbx.cell 41).trans (bx41 ..)
 have HF:=zh (z1N bb 41 (x.m.tm.rl) b U hb)
 have KB:=zh hbx
 have ST:=zh (And.intro h1 (And.intro hws (And.intro hm (And.intro hf hi))))
 obtain⟨a0,a1⟩:=ha
 clear e1 hbx hws hm hf hi h1 hp hk I U
 have d3:¬a<49152:=by omega
 have d4:¬a<53248:=by omega
 go_enter Tryz.func76,Tryz.ntmps76
 go_wp2_with fail
 refine(HF.out _ c0 (fb _)).mono ?_
 rintro e w' ⟨rfl,rfl⟩
 go_wp2
 all_goals exact bodyPost_end (results_none rfl _ _ _) rfl ⟨rfl,RelX.box1 L ST.out KB.out ((But.refl bb w).setCell rfl _) kD (Blk.set KB.out (bs41 V x wv _)) rfl rfl HI.out,((But.refl bb w).setCell rfl _).kp L2⟩
theorem mp_3{w0:World}{V:Nat->Value}{bb B H:Nat}(L:LiesX V bb B H)(w:World)(x:Bx)(a b:Int)(ha:U16 a)(hb:U8 b)(h:RelX 89 w0 V bb H w x)(hB:B<=w.heap.size)(hp:isPort a=true)(hk:a%32=3):Calls Tryz.prog 76 #[.pointer (some ⟨bb,0,none⟩),.int .u16 a,.int .u8 b] w fun e w'=>e= .returned (.tuple #[])/\RelX 89 w0 V bb H w' (mainP x a b)/\Kp B NoX w w':=by
 have d:53248<=a/\a<57344:=by unfold isPort at hp;simpa using hp
 obtain⟨d1,d2⟩:=d
 have e1:mainP x a b=x.wTm {x.m.tm with rl:=lo16 x.m.tm.rl b}:=by unfold mainP;rw[if_neg kO,if_neg kO,hp,if_pos rfl,hk];unfold portP;simp only[reduceIte,Int.reduceEq];try rfl
 rw[e1]
 have k1:bits .and .u16 a 31=3:=by rw[z0q a ha,hk]
 have k2:bits .and .u16 a 1=1:=by rw[and1 a ha];omega
 have I:=h.inn
 have HI:=zh (inTm I (rl_ok I.tm (z2P I.tm.rl hb)))
 have U:=(by first|exact I.tm.rl|exact I.fm|exact I.to:U16 (x.m.tm.rl))
 obtain⟨h1,⟨wv,hbx,hws⟩,hm,hf,hi⟩:=h
 have L2:=L.hi
 have lb:=hbx.lt
 have fb:=hbx.free
 have c0:w.cell? ⟨bb,41,none⟩=some (.int .u16 x.m.tm.rl):=(hbx.cell 41).trans (bx41 ..)
 have HF:=zh (z1M bb 41 (x.m.tm.rl) b U hb)
 have KB:=zh hbx
 have ST:=zh (And.intro h1 (And.intro hws (And.intro hm (And.intro hf hi))))
 obtain⟨a0,a1⟩:=ha
 clear e1 hbx hws hm hf hi h1 hp hk I U
 have d3:¬a<49152:=by omega
 have d4:¬a<53248:=by omega
 go_enter Tryz.func76,Tryz.ntmps76
 go_wp2_with fail
 refine(HF.out _ c0 (fb _)).mono ?_
 rintro e w' ⟨rfl,rfl⟩
 go_wp2
 all_goals exact bodyPost_end (results_none rfl _ _ _) rfl ⟨rfl,RelX.box1 L ST.out KB.out ((But.refl bb w).setCell rfl _) kD (Blk.set KB.out (bs41 V x wv _)) rfl rfl HI.out,((But.refl bb w).setCell rfl _).kp L2⟩
theorem mp_10{w0:World}{V:Nat->Value}{bb B H:Nat}(L:LiesX V bb B H)(w:World)(x:Bx)(a b:Int)(ha:U16 a)(hb:U8 b)(h:RelX 89 w0 V bb H w x)(hB:B<=w.heap.size)(hp:isPort a=true)(hk:a%32=10):Calls Tryz.prog 76 #[.pointer (some ⟨bb,0,none⟩),.int .u16 a,.int .u8 b] w fun e w'=>e= .returned (.tuple #[])/\RelX 89 w0 V bb H w' (mainP x a b)/\Kp B NoX w w':=by
 have d:53248<=a/\a<57344:=by unfold isPort at hp;simpa using hp
 obtain⟨d1,d2⟩:=d
 have e1:mainP x a b=({x with m:={x.m with fm:=hi16 x.m.fm b}}:Bx):=by unfold mainP;rw[if_neg kO,if_neg kO,hp,if_pos rfl,hk];unfold portP;simp only[reduceIte,Int.reduceEq];try rfl
 rw[e1]
 have k1:bits .and .u16 a 31=10:=by rw[z0q a ha,hk]
 have k2:bits .and .u16 a 1=0:=by rw[and1 a ha];omega
 have I:=h.inn
 have HI:=zh (inFm I (z2Q (n:=x.m.fm) hb))
 have U:=(by first|exact I.tm.rl|exact I.fm|exact I.to:U16 (x.m.fm))
 obtain⟨h1,⟨wv,hbx,hws⟩,hm,hf,hi⟩:=h
 have L2:=L.hi
 have lb:=hbx.lt
 have fb:=hbx.free
 have c0:w.cell? ⟨bb,65,none⟩=some (.int .u16 x.m.fm):=(hbx.cell 65).trans (bx65 ..)
 have HF:=zh (z1N bb 65 (x.m.fm) b U hb)
 have KB:=zh hbx
 have ST:=zh (And.intro h1 (And.intro hws (And.intro hm (And.intro hf hi))))
 obtain⟨a0,a1⟩:=ha
 clear e1 hbx hws hm hf hi h1 hp hk I U
 have d3:¬a<49152:=by omega
 have d4:¬a<53248:=by omega
 go_enter Tryz.func76,Tryz.ntmps76
 go_wp2_with fail
 refine(HF.out _ c0 (fb _)).mono ?_
 rintro e w' ⟨rfl,rfl⟩
 go_wp2
 all_goals exact bodyPost_end (results_none rfl _ _ _) rfl ⟨rfl,RelX.box1 L ST.out KB.out ((But.refl bb w).setCell rfl _) kD (Blk.set KB.out (bs65 V x wv _)) rfl rfl HI.out,((But.refl bb w).setCell rfl _).kp L2⟩
theorem mp_11{w0:World}{V:Nat->Value}{bb B H:Nat}(L:LiesX V bb B H)(w:World)(x:Bx)(a b:Int)(ha:U16 a)(hb:U8 b)(h:RelX 89 w0 V bb H w x)(hB:B<=w.heap.size)(hp:isPort a=true)(hk:a%32=11):Calls Tryz.prog 76 #[.pointer (some ⟨bb,0,none⟩),.int .u16 a,.int .u8 b] w fun e w'=>e= .returned (.tuple #[])/\RelX 89 w0 V bb H w' (mainP x a b)/\Kp B NoX w w':=by
 have d:53248<=a/\a<57344:=by unfold isPort at hp;simpa using hp
 obtain⟨d1,d2⟩:=d
 have e1:mainP x a b=({x with m:={x.m with fm:=lo16 x.m.fm b}}:Bx):=by unfold mainP;rw[if_neg kO,if_neg kO,hp,if_pos rfl,hk];unfold portP;simp only[reduceIte,Int.reduceEq];try rfl
 rw[e1]
 have k1:bits .and .u16 a 31=11:=by rw[z0q a ha,hk]
 have k2:bits .and .u16 a 1=1:=by rw[and1 a ha];omega
 have I:=h.inn
 have HI:=zh (inFm I (z2P I.fm hb))
 have U:=(by first|exact I.tm.rl|exact I.fm|exact I.to:U16 (x.m.fm))
 obtain⟨h1,⟨wv,hbx,hws⟩,hm,hf,hi⟩:=h
 have L2:=L.hi
 have lb:=hbx.lt
 have fb:=hbx.free
 have c0:w.cell? ⟨bb,65,none⟩=some (.int .u16 x.m.fm):=(hbx.cell 65).trans (bx65 ..)
 have HF:=zh (z1M bb 65 (x.m.fm) b U hb)
 have KB:=zh hbx
 have ST:=zh (And.intro h1 (And.intro hws (And.intro hm (And.intro hf hi))))
 obtain⟨a0,a1⟩:=ha
 clear e1 hbx hws hm hf hi h1 hp hk I U
 have d3:¬a<49152:=by omega
 have d4:¬a<53248:=by omega
 go_enter Tryz.func76,Tryz.ntmps76
 go_wp2_with fail
 refine(HF.out _ c0 (fb _)).mono ?_
 rintro e w' ⟨rfl,rfl⟩
 go_wp2
 all_goals exact bodyPost_end (results_none rfl _ _ _) rfl ⟨rfl,RelX.box1 L ST.out KB.out ((But.refl bb w).setCell rfl _) kD (Blk.set KB.out (bs65 V x wv _)) rfl rfl HI.out,((But.refl bb w).setCell rfl _).kp L2⟩
theorem mp_12{w0:World}{V:Nat->Value}{bb B H:Nat}(L:LiesX V bb B H)(w:World)(x:Bx)(a b:Int)(ha:U16 a)(hb:U8 b)(h:RelX 89 w0 V bb H w x)(hB:B<=w.heap.size)(hp:isPort a=true)(hk:a%32=12):Calls Tryz.prog 76 #[.pointer (some ⟨bb,0,none⟩),.int .u16 a,.int .u8 b] w fun e w'=>e= .returned (.tuple #[])/\RelX 89 w0 V bb H w' (mainP x a b)/\Kp B NoX w w':=by
 have d:53248<=a/\a<57344:=by unfold isPort at hp;simpa using hp
 obtain⟨d1,d2⟩:=d
 have e1:mainP x a b=({x with m:={x.m with «to»:=hi16 x.m.to b}}:Bx):=by unfold mainP;rw[if_neg kO,if_neg kO,hp,if_pos rfl,hk];unfold portP;simp only[reduceIte,Int.reduceEq];try rfl
 rw[e1]
 have k1:bits .and .u16 a 31=12:=by rw[z0q a ha,hk]
 have k2:bits .and .u16 a 1=0:=by rw[and1 a ha];omega
 have I:=h.inn
 have HI:=zh (inTo I (z2Q (n:=x.m.to) hb))
 have U:=(by first|exact I.tm.rl|exact I.fm|exact I.to:U16 (x.m.to))
 obtain⟨h1,⟨wv,hbx,hws⟩,hm,hf,hi⟩:=h
 have L2:=L.hi
 have lb:=hbx.lt
 have fb:=hbx.free
 have c0:w.cell? ⟨bb,66,none⟩=some (.int .u16 x.m.to):=(hbx.cell 66).trans (bx66 ..)
 have HF:=zh (z1N bb 66 (x.m.to) b U hb)
 have KB:=zh hbx
 have ST:=zh (And.intro h1 (And.intro hws (And.intro hm (And.intro hf hi))))
 obtain⟨a0,a1⟩:=ha
 clear e1 hbx hws hm hf hi h1 hp hk I U
 have d3:¬a<49152:=by omega
 have d4:¬a<53248:=by omega
 go_enter Tryz.func76,Tryz.ntmps76
 go_wp2_with fail
 refine(HF.out _ c0 (fb _)).mono ?_
 rintro e w' ⟨rfl,rfl⟩
 go_wp2
 all_goals exact bodyPost_end (results_none rfl _ _ _) rfl ⟨rfl,RelX.box1 L ST.out KB.out ((But.refl bb w).setCell rfl _) kD (Blk.set KB.out (bs66 V x wv _)) rfl rfl HI.out,((But.refl bb w).setCell rfl _).kp L2⟩
theorem mp_13{w0:World}{V:Nat->Value}{bb B H:Nat}(L:LiesX V bb B H)(w:World)(x:Bx)(a b:Int)(ha:U16 a)(hb:U8 b)(h:RelX 89 w0 V bb H w x)(hB:B<=w.heap.size)(hp:isPort a=true)(hk:a%32=13):Calls Tryz.prog 76 #[.pointer (some ⟨bb,0,none⟩),.int .u16 a,.int .u8 b] w fun e w'=>e= .returned (.tuple #[])/\RelX 89 w0 V bb H w' (mainP x a b)/\Kp B NoX w w':=by
 have d:53248<=a/\a<57344:=by unfold isPort at hp;simpa using hp
 obtain⟨d1,d2⟩:=d
 have e1:mainP x a b=({x with m:={x.m with «to»:=lo16 x.m.to b}}:Bx):=by unfold mainP;rw[if_neg kO,if_neg kO,hp,if_pos rfl,hk];unfold portP;simp only[reduceIte,Int.reduceEq];try rfl
 rw[e1]
 have k1:bits .and .u16 a 31=13:=by rw[z0q a ha,hk]
 have k2:bits .and .u16 a 1=1:=by rw[and1 a ha];omega
 have I:=h.inn
 have HI:=zh (inTo I (z2P I.to hb))
 have U:=(by first|exact I.tm.rl|exact I.fm|exact I.to:U16 (x.m.to))
 obtain⟨h1,⟨wv,hbx,hws⟩,hm,hf,hi⟩:=h
 have L2:=L.hi
 have lb:=hbx.lt
 have fb:=hbx.free
 have c0:w.cell? ⟨bb,66,none⟩=some (.int .u16 x.m.to):=(hbx.cell 66).trans (bx66 ..)
 have HF:=zh (z1M bb 66 (x.m.to) b U hb)
 have KB:=zh hbx
 have ST:=zh (And.intro h1 (And.intro hws (And.intro hm (And.intro hf hi))))
 obtain⟨a0,a1⟩:=ha
 clear e1 hbx hws hm hf hi h1 hp hk I U
 have d3:¬a<49152:=by omega
 have d4:¬a<53248:=by omega
 go_enter Tryz.func76,Tryz.ntmps76
 go_wp2_with fail
 refine(HF.out _ c0 (fb _)).mono ?_
 rintro e w' ⟨rfl,rfl⟩
 go_wp2
 all_goals exact bodyPost_end (results_none rfl _ _ _) rfl ⟨rfl,RelX.box1 L ST.out KB.out ((But.refl bb w).setCell rfl _) kD (Blk.set KB.out (bs66 V x wv _)) rfl rfl HI.out,((But.refl bb w).setCell rfl _).kp L2⟩
theorem mp_8{w0:World}{V:Nat->Value}{bb B H:Nat}(L:LiesX V bb B H)(w:World)(x:Bx)(a b:Int)(ha:U16 a)(hb:U8 b)(h:RelX 89 w0 V bb H w x)(hB:B<=w.heap.size)(hp:isPort a=true)(hk:a%32=8):Calls Tryz.prog 76 #[.pointer (some ⟨bb,0,none⟩),.int .u16 a,.int .u8 b] w fun e w'=>e= .returned (.tuple #[])/\RelX 89 w0 V bb H w' (mainP x a b)/\Kp B NoX w w':=by
 have d:53248<=a/\a<57344:=by unfold isPort at hp;simpa using hp
 obtain⟨d1,d2⟩:=d
 have e1:mainP x a b={x with m:={x.m with bm:={x.m.bm with rg:=false}}}:=by unfold mainP;rw[if_neg kO,if_neg kO,hp,if_pos rfl,hk];unfold portP;simp only[reduceIte,Int.reduceEq]
 rw[e1]
 have k1:bits .and .u16 a 31=8:=by rw[z0q a ha,hk]
 obtain⟨h1,⟨wv,hbx,hws⟩,hm,hf,hi⟩:=h
 have L2:=L.hi
 have lb:=hbx.lt
 have fb:=hbx.free
 have c0:w.cell? ⟨bb,63,none⟩=some (.bool x.m.bm.rg):=(hbx.cell 63).trans (bx63 ..)
 have KB:=zh hbx
 have ST:=zh (And.intro h1 (And.intro hws (And.intro hm (And.intro hf hi))))
 obtain⟨a0,a1⟩:=ha
 clear e1 hbx hws hm hf hi h1 hp hk
 have d3:¬a<49152:=by omega
 have d4:¬a<53248:=by omega
 go_enter Tryz.func76,Tryz.ntmps76
 go_wp2
 all_goals exact bodyPost_end (results_none rfl _ _ _) rfl ⟨rfl,RelX.box1 L ST.out KB.out ((But.refl bb w).setCell rfl _) kD (Blk.set KB.out (bs63 V x wv false)) rfl rfl (inBr ST.out.2.2.2.2 false),((But.refl bb w).setCell rfl _).kp L2⟩
theorem mp_17{w0:World}{V:Nat->Value}{bb B H:Nat}(L:LiesX V bb B H)(w:World)(x:Bx)(a b:Int)(ha:U16 a)(hb:U8 b)(h:RelX 89 w0 V bb H w x)(hB:B<=w.heap.size)(hp:isPort a=true)(hk:a%32=17):Calls Tryz.prog 76 #[.pointer (some ⟨bb,0,none⟩),.int .u16 a,.int .u8 b] w fun e w'=>e= .returned (.tuple #[])/\RelX 89 w0 V bb H w' (mainP x a b)/\Kp B NoX w w':=by
 have d:53248<=a/\a<57344:=by unfold isPort at hp;simpa using hp
 obtain⟨d1,d2⟩:=d
 have e1:mainP x a b={x with m:={x.m with m0:=b,rg:=true}}:=by unfold mainP;rw[if_neg kO,if_neg kO,hp,if_pos rfl,hk];unfold portP;simp only[reduceIte,Int.reduceEq]
 rw[e1]
 have k1:bits .and .u16 a 31=17:=by rw[z0q a ha,hk]
 obtain⟨h1,⟨wv,hbx,hws⟩,hm,hf,hi⟩:=h
 have L2:=L.hi
 have lb:=hbx.lt
 have fb:=hbx.free
 have c0:w.cell? ⟨bb,69,none⟩=some (.int .u8 x.m.m0):=(hbx.cell 69).trans (bx69 ..)
 have c1:w.cell? ⟨bb,71,none⟩=some (.bool x.m.rg):=(hbx.cell 71).trans (bx71 ..)
 have KB:=zh hbx
 have ST:=zh (And.intro h1 (And.intro hws (And.intro hm (And.intro hf hi))))
 obtain⟨a0,a1⟩:=ha
 clear e1 hbx hws hm hf hi h1 hp hk
 have d3:¬a<49152:=by omega
 have d4:¬a<53248:=by omega
 go_enter Tryz.func76,Tryz.ntmps76
 go_wp2
 all_goals exact bodyPost_end (results_none rfl _ _ _) rfl ⟨rfl,RelX.box1 L ST.out KB.out (((But.refl bb w).setCell rfl _).setCell rfl _) kD (Blk.set (Blk.set KB.out (bs69 V x wv b)) (bs71 V _ wv true)) rfl rfl (inM0 ST.out.2.2.2.2 hb true),(((But.refl bb w).setCell rfl _).setCell rfl _).kp L2⟩
theorem mp_14{w0:World}{V:Nat->Value}{bb B H:Nat}(L:LiesX V bb B H)(w:World)(x:Bx)(a b:Int)(ha:U16 a)(hb:U8 b)(h:RelX 89 w0 V bb H w x)(hB:B<=w.heap.size)(hp:isPort a=true)(hk:a%32=14):Calls Tryz.prog 76 #[.pointer (some ⟨bb,0,none⟩),.int .u16 a,.int .u8 b] w fun e w'=>e= .returned (.tuple #[])/\RelX 89 w0 V bb H w' (mainP x a b)/\Kp B NoX w w':=by
 have d:53248<=a/\a<57344:=by unfold isPort at hp;simpa using hp
 obtain⟨d1,d2⟩:=d
 obtain⟨n,rfl⟩:=Int.eq_ofNat_of_zero_le hb.1
 have e1:mainP x a n=mvY x n:=by unfold mainP;rw[if_neg kO,if_neg kO,hp,if_pos rfl,hk];unfold portP;simp only[reduceIte,Int.reduceEq];rfl
 rw[e1]
 have k1:bits .and .u16 a 31=14:=by rw[z0q a ha,hk]
 have MV:=zh (z7w L w x n (by unfold U8 at hb;omega) h hB)
 obtain⟨a0,a1⟩:=ha
 clear e1 h hp hk
 have d3:¬a<49152:=by omega
 have d4:¬a<53248:=by omega
 go_enter Tryz.func76,Tryz.ntmps76
 go_wp2_with fail
 refine MV.out.mono ?_
 rintro e w1 ⟨rfl,hr1,hk1⟩
 go_wp2
 all_goals exact bodyPost_end (results_none rfl _ _ _) rfl ⟨rfl,hr1,hk1⟩
theorem mp_no{w0:World}{V:Nat->Value}{bb B H:Nat}(L:LiesX V bb B H)(w:World)(x:Bx)(a b:Int)(ha:U16 a)(hb:U8 b)(h:RelX 89 w0 V bb H w x)(hB:B<=w.heap.size)(hp:isPort a=true)(n0:a%32≠0)(n2:a%32≠2)(n3:a%32≠3)(n4:a%32≠4)(n8:a%32≠8)(n10:a%32≠10)(n11:a%32≠11)(n12:a%32≠12)(n13:a%32≠13)(n14:a%32≠14)(n16:a%32≠16)(n17:a%32≠17):Calls Tryz.prog 76 #[.pointer (some ⟨bb,0,none⟩),.int .u16 a,.int .u8 b] w fun e w'=>e= .returned (.tuple #[])/\RelX 89 w0 V bb H w' (mainP x a b)/\Kp B NoX w w':=by
 have d:53248<=a/\a<57344:=by unfold isPort at hp;simpa using hp
 obtain⟨d1,d2⟩:=d
 have e1:mainP x a b=x:=by unfold mainP;rw[if_neg kO,if_neg kO,hp,if_pos rfl];unfold portP;rw[if_neg n0,if_neg n2,if_neg n3,if_neg n4,if_neg n8,if_neg n10,if_neg n11,if_neg n12,if_neg n13,if_neg n14,if_neg n16,if_neg n17]
 rw[e1]
 have hh:=zh h
 obtain⟨h1,⟨wv,hbx,hws⟩,hm,hf,hi⟩:=h
 have lb:=hbx.lt
 obtain⟨p,hpp⟩:∃p,p=a%32:=⟨_,rfl⟩
 have k1:bits .and .u16 a 31=p:=by rw[z0q a ha,hpp]
 rw[<-hpp]at n0 n2 n3 n4 n8 n10 n11 n12 n13 n14 n16 n17
 have m0:(p==0)=false:=by simpa using n0
 have m2:(p==2)=false:=by simpa using n2
 have m3:(p==3)=false:=by simpa using n3
 have m4:(p==4)=false:=by simpa using n4
 have m8:(p==8)=false:=by simpa using n8
 have m10:(p==10)=false:=by simpa using n10
 have m11:(p==11)=false:=by simpa using n11
 have m12:(p==12)=false:=by simpa using n12
 have m13:(p==13)=false:=by simpa using n13
 have m14:(p==14)=false:=by simpa using n14
 have m16:(p==16)=false:=by simpa using n16
 have m17:(p==17)=false:=by simpa using n17
 obtain⟨a0,a1⟩:=ha
 clear n0 n2 n3 n4 n8 n10 n11 n12 n13 n14 n16 n17 hpp e1 hbx hws hm hf hi h1 hp L
 have d3:¬a<49152:=by omega
 have d4:¬a<53248:=by omega
 go_enter Tryz.func76,Tryz.ntmps76
 go_wp2
 all_goals exact bodyPost_end (results_none rfl _ _ _) rfl ⟨rfl,hh.out,Kp.refl _ _ _⟩
end Go.Proofs.YtkoocfcnfolkhaaGreatDoor
/- The main processor writes to the pads' port, the timer's, the other processor's. Conditions: the machine lies in a box. -/
namespace Go.Mq
theorem z6q:isPort 0=false:=by decide
theorem z6p:isPort 1=false:=by decide
theorem z8E(x:Bx):auxGS x 0=x:=by unfold auxGS;rw[z6q,if_neg kS]
theorem z0aP(x:Bx):auxGS x 1=x:=by unfold auxGS;rw[z6p,if_neg kS]
theorem nx0:nx 0=1:=by decide
theorem wV_A0(x:Bx):wV busA x 0=auxG x.m 0%256*256+auxG x.m 1%256:=by
 show auxG x.m 0%256*256+auxG (auxGS x 0).m (nx 0)%256=_
 rw[z8E,nx0]
theorem wS_A0(x:Bx):wS busA x 0=x:=by
 show auxGS (auxGS x 0) (nx 0)=x
 rw[z8E,nx0,z0aP]
end Go.Mq
namespace Go.Proofs.YtkoocfcnfolkhaaGreatDoor
open Go.RowKit Go.Mq
theorem z8Z{w0:World}{V:Nat->Value}{bb B H:Nat}(L:LiesX V bb B H)(w:World)(x:Bx)(a b:Int)(ha:U16 a)(hb:U8 b)(h:RelX 89 w0 V bb H w x)(hB:B<=w.heap.size)(hp:isPort a=true)(hk:a%32=4)(hq:b/2%2=1):Calls Tryz.prog 76 #[.pointer (some ⟨bb,0,none⟩),.int .u16 a,.int .u8 b] w fun e w'=>e= .returned (.tuple #[])/\RelX 89 w0 V bb H w' (mainP x a b)/\Kp B NoX w w':=by
 have d:53248<=a/\a<57344:=by unfold isPort at hp;simpa using hp
 obtain⟨d1,d2⟩:=d
 obtain⟨t,ht⟩:∃t,t=setTm x.m.tm (b%2==1):=⟨_,rfl⟩
 have e1:mainP x a b=x.wTm {t with rg:=false}:=by unfold mainP;rw[if_neg kO,if_neg kO,hp,if_pos rfl,hk];unfold portP;simp only[reduceIte,Int.reduceEq];unfold setT;rw[ht];first|rw[if_pos hq]|rw[if_neg kO]
 rw[e1]
 have k1:bits .and .u16 a 31=4:=by rw[z0q a ha,hk]
 have k2:bits .and .u8 b 1=b%2:=z3S b hb
 have k3:bits .and .u8 b 2=2:=by rw[z3R b hb,hq];rfl
 have TS:=zh (z3s x.m.tm h.inn.tm (b%2==1))
 have HT:=zh (z1v h.inn.tm (b%2==1))
 rw[<-ht]at TS HT
 obtain⟨h1,⟨wv,hbx,hws⟩,hm,hf,hi⟩:=h
 have L2:=L.hi
 have lb:=hbx.lt
 have fb:=hbx.free
 have KB:=zh hbx
 have ST:=zh (And.intro h1 (And.intro hws (And.intro hm (And.intro hf hi))))
 obtain⟨a0,a1⟩:=ha
 clear e1 hbx hws hm hf hi h1 hp hk ht hq
 have d3:¬a<49152:=by omega
 have d4:¬a<53248:=by omega
 go_enter Tryz.func76,Tryz.ntmps76
 go_wp2_with (first|((with_reducible show wpList _ _ _ _ _ _);refine lA 32 87 rfl rfl (bb) (41) 4 rfl 89 (boxC V x wv) #[.int .u16 x.m.tm.rl,.int .u16 x.m.tm.ct,.bool x.m.tm.on,.bool x.m.tm.rg] kB Tryz.underlying32 ?_))
 refine(TS.out _).mono ?_
 rintro e w1 ⟨rfl,hb1⟩
 have hs1:=hb1.size
 go_wp2_with (first|(((with_reducible show wpList _ _ _ _ _ _);refine sA 32 94 92 rfl rfl (bb) (41) #[.int .u16 t.rl,.int .u16 t.ct,.bool t.on,.bool t.rg] rfl rfl 89 (boxC V x wv) (boxC V (x.wTm t) wv) kB ?_;intro w2 hp_w2 K_w2);have l2:=K_w2.out.lt;have f2:=K_w2.out.free;have c44:w2.cell? ⟨bb,44,none⟩=some (.bool t.rg):=(K_w2.out.cell 44).trans (bx44 V (x.wTm t) wv)))
 all_goals exact bodyPost_end (results_none rfl _ _ _) rfl ⟨rfl,(RelX.box1 L ST.out KB.out (((But.of hb1 (Nat.le_refl _)).put hp_w2).setCell rfl _) kD (Blk.set K_w2.out (bs44 V (x.wTm t) wv false)) rfl rfl (inTm ST.out.2.2.2.2 (rg_ok HT.out false))),(by first|exact((But.of hb1 (Nat.le_refl _)).put hp_w2).kp L2|exact(((But.of hb1 (Nat.le_refl _)).put hp_w2).setCell rfl _).kp L2)⟩
theorem z8Y{w0:World}{V:Nat->Value}{bb B H:Nat}(L:LiesX V bb B H)(w:World)(x:Bx)(a b:Int)(ha:U16 a)(hb:U8 b)(h:RelX 89 w0 V bb H w x)(hB:B<=w.heap.size)(hp:isPort a=true)(hk:a%32=4)(hq:b/2%2=0):Calls Tryz.prog 76 #[.pointer (some ⟨bb,0,none⟩),.int .u16 a,.int .u8 b] w fun e w'=>e= .returned (.tuple #[])/\RelX 89 w0 V bb H w' (mainP x a b)/\Kp B NoX w w':=by
 have d:53248<=a/\a<57344:=by unfold isPort at hp;simpa using hp
 obtain⟨d1,d2⟩:=d
 obtain⟨t,ht⟩:∃t,t=setTm x.m.tm (b%2==1):=⟨_,rfl⟩
 have e1:mainP x a b=x.wTm t:=by unfold mainP;rw[if_neg kO,if_neg kO,hp,if_pos rfl,hk];unfold portP;simp only[reduceIte,Int.reduceEq];unfold setT;rw[ht];first|rw[if_pos hq]|rw[if_neg kO]
 rw[e1]
 have k1:bits .and .u16 a 31=4:=by rw[z0q a ha,hk]
 have k2:bits .and .u8 b 1=b%2:=z3S b hb
 have k3:bits .and .u8 b 2=0:=by rw[z3R b hb,hq];rfl
 have TS:=zh (z3s x.m.tm h.inn.tm (b%2==1))
 have HT:=zh (z1v h.inn.tm (b%2==1))
 rw[<-ht]at TS HT
 obtain⟨h1,⟨wv,hbx,hws⟩,hm,hf,hi⟩:=h
 have L2:=L.hi
 have lb:=hbx.lt
 have fb:=hbx.free
 have KB:=zh hbx
 have ST:=zh (And.intro h1 (And.intro hws (And.intro hm (And.intro hf hi))))
 obtain⟨a0,a1⟩:=ha
 clear e1 hbx hws hm hf hi h1 hp hk ht hq
 have d3:¬a<49152:=by omega
 have d4:¬a<53248:=by omega
 go_enter Tryz.func76,Tryz.ntmps76
 go_wp2_with (first|((with_reducible show wpList _ _ _ _ _ _);refine lA 32 87 rfl rfl (bb) (41) 4 rfl 89 (boxC V x wv) #[.int .u16 x.m.tm.rl,.int .u16 x.m.tm.ct,.bool x.m.tm.on,.bool x.m.tm.rg] kB Tryz.underlying32 ?_))
 refine(TS.out _).mono ?_
 rintro e w1 ⟨rfl,hb1⟩
 have hs1:=hb1.size
 go_wp2_with (first|(((with_reducible show wpList _ _ _ _ _ _);refine sA 32 94 92 rfl rfl (bb) (41) #[.int .u16 t.rl,.int .u16 t.ct,.bool t.on,.bool t.rg] rfl rfl 89 (boxC V x wv) (boxC V (x.wTm t) wv) kB ?_;intro w2 hp_w2 K_w2);have l2:=K_w2.out.lt;have f2:=K_w2.out.free;have c44:w2.cell? ⟨bb,44,none⟩=some (.bool t.rg):=(K_w2.out.cell 44).trans (bx44 V (x.wTm t) wv)))
 all_goals exact bodyPost_end (results_none rfl _ _ _) rfl ⟨rfl,(RelX.box1 L ST.out KB.out ((But.of hb1 (Nat.le_refl _)).put hp_w2) kD K_w2.out rfl rfl (inTm ST.out.2.2.2.2 HT.out)),(by first|exact((But.of hb1 (Nat.le_refl _)).put hp_w2).kp L2|exact(((But.of hb1 (Nat.le_refl _)).put hp_w2).setCell rfl _).kp L2)⟩
end Go.Proofs.YtkoocfcnfolkhaaGreatDoor
/- The main processor writes to the pads' port and the other processor's. Conditions: the machine lies in a box. -/
namespace Go.Mq
def x16(x:Bx)(g h:Bool):Bx:={x with m:={x.m with gr:=g,hd:=h}}
end Go.Mq
namespace Go.Proofs.YtkoocfcnfolkhaaGreatDoor
open Go.RowKit Go.Mq
theorem z9a{w0:World}{V:Nat->Value}{bb B H:Nat}(L:LiesX V bb B H)(w:World)(x:Bx)(a b:Int)(ha:U16 a)(hb:U8 b)(h:RelX 89 w0 V bb H w x)(hB:B<=w.heap.size)(hp:isPort a=true)(hk:a%32=16)(hq:b/2%2=1)(hwas:(x.m.hd=true\/x.m.hd=false)):Calls Tryz.prog 76 #[.pointer (some ⟨bb,0,none⟩),.int .u16 a,.int .u8 b] w fun e w'=>e= .returned (.tuple #[])/\RelX 89 w0 V bb H w' (mainP x a b)/\Kp B NoX w w':=by
 have d:53248<=a/\a<57344:=by unfold isPort at hp;simpa using hp
 obtain⟨d1,d2⟩:=d
 obtain⟨g,hg⟩:∃g,g=(b%2==1):=⟨_,rfl⟩
 have e1:mainP x a b=x16 x g true:=by
  unfold mainP
  rw[if_neg kO,if_neg kO,hp,if_pos rfl,hk]
  unfold portP
  simp only[reduceIte,Int.reduceEq]
  unfold freeM x16
  rw[hq,<-hg]
  first|(rw[hwas];rfl)|simp
 rw[e1]
 have k1:bits .and .u16 a 31=16:=by rw[z0q a ha,hk]
 have k2:(bits .and .u8 b 1==1)=g:=by rw[z3S b hb,hg]
 have k3:bits .and .u8 b 2=2:=by rw[z3R b hb,hq];rfl
 obtain⟨h1,⟨wv,hbx,hws⟩,hm,hf,hi⟩:=h
 have L2:=L.hi
 have lb:=hbx.lt
 have fb:=hbx.free
 have c67:w.cell? ⟨bb,67,none⟩=some (.bool x.m.gr):=(hbx.cell 67).trans (bx67 ..)
 have c68:w.cell? ⟨bb,68,none⟩=some (.bool x.m.hd):=(hbx.cell 68).trans (bx68 ..)
 have KB:=zh hbx
 have ST:=zh (And.intro h1 (And.intro hws (And.intro hm (And.intro hf hi))))
 obtain⟨a0,a1⟩:=ha
 clear e1 hbx hws hm hf hi h1 hp hk hg hq
 have d3:¬a<49152:=by omega
 have d4:¬a<53248:=by omega
 have FIN:=zh (And.intro (RelX.box1 (x':=x16 x g true) L ST.out KB.out (((But.refl bb w).setCell (p:=⟨bb,67,none⟩) rfl (.bool g)).setCell (p:=⟨bb,68,none⟩) rfl (.bool true)) kD (Blk.set (Blk.set KB.out (bs67 V x wv g)) (bs68 V _ wv true)) rfl rfl (inGH ST.out.2.2.2.2 g true)) ((((But.refl bb w).setCell (p:=⟨bb,67,none⟩) rfl (.bool g)).setCell (p:=⟨bb,68,none⟩) rfl (.bool true)).kp (B:=B) L2))
 obtain⟨q,hq⟩:∃q,q=x.m.hd:=⟨_,rfl⟩
 rw[<-hq]at c68 hwas
 clear hq
 first|(rcases hwas with rfl|rfl)|subst hwas
 all_goals
  go_enter Tryz.func76,Tryz.ntmps76
  go_wp2
  all_goals exact bodyPost_end (results_none rfl _ _ _) rfl ⟨rfl,FIN.out⟩
theorem z7v{w0:World}{V:Nat->Value}{bb B H:Nat}(L:LiesX V bb B H)(w:World)(x:Bx)(a b:Int)(ha:U16 a)(hb:U8 b)(h:RelX 89 w0 V bb H w x)(hB:B<=w.heap.size)(hp:isPort a=true)(hk:a%32=16)(hq:b/2%2=0)(hwas:x.m.hd=false):Calls Tryz.prog 76 #[.pointer (some ⟨bb,0,none⟩),.int .u16 a,.int .u8 b] w fun e w'=>e= .returned (.tuple #[])/\RelX 89 w0 V bb H w' (mainP x a b)/\Kp B NoX w w':=by
 have d:53248<=a/\a<57344:=by unfold isPort at hp;simpa using hp
 obtain⟨d1,d2⟩:=d
 obtain⟨g,hg⟩:∃g,g=(b%2==1):=⟨_,rfl⟩
 have e1:mainP x a b=x16 x g false:=by
  unfold mainP
  rw[if_neg kO,if_neg kO,hp,if_pos rfl,hk]
  unfold portP
  simp only[reduceIte,Int.reduceEq]
  unfold freeM x16
  rw[hq,<-hg]
  first|(rw[hwas];rfl)|simp
 rw[e1]
 have k1:bits .and .u16 a 31=16:=by rw[z0q a ha,hk]
 have k2:(bits .and .u8 b 1==1)=g:=by rw[z3S b hb,hg]
 have k3:bits .and .u8 b 2=0:=by rw[z3R b hb,hq];rfl
 obtain⟨h1,⟨wv,hbx,hws⟩,hm,hf,hi⟩:=h
 have L2:=L.hi
 have lb:=hbx.lt
 have fb:=hbx.free
 have c67:w.cell? ⟨bb,67,none⟩=some (.bool x.m.gr):=(hbx.cell 67).trans (bx67 ..)
 have c68:w.cell? ⟨bb,68,none⟩=some (.bool x.m.hd):=(hbx.cell 68).trans (bx68 ..)
 have KB:=zh hbx
 have ST:=zh (And.intro h1 (And.intro hws (And.intro hm (And.intro hf hi))))
 obtain⟨a0,a1⟩:=ha
 clear e1 hbx hws hm hf hi h1 hp hk hg hq
 have d3:¬a<49152:=by omega
 have d4:¬a<53248:=by omega
 have FIN:=zh (And.intro (RelX.box1 (x':=x16 x g false) L ST.out KB.out (((But.refl bb w).setCell (p:=⟨bb,67,none⟩) rfl (.bool g)).setCell (p:=⟨bb,68,none⟩) rfl (.bool false)) kD (Blk.set (Blk.set KB.out (bs67 V x wv g)) (bs68 V _ wv false)) rfl rfl (inGH ST.out.2.2.2.2 g false)) ((((But.refl bb w).setCell (p:=⟨bb,67,none⟩) rfl (.bool g)).setCell (p:=⟨bb,68,none⟩) rfl (.bool false)).kp (B:=B) L2))
 obtain⟨q,hq⟩:∃q,q=x.m.hd:=⟨_,rfl⟩
 rw[<-hq]at c68 hwas
 clear hq
 first|(rcases hwas with rfl|rfl)|subst hwas
 all_goals
  go_enter Tryz.func76,Tryz.ntmps76
  go_wp2
  all_goals exact bodyPost_end (results_none rfl _ _ _) rfl ⟨rfl,FIN.out⟩
theorem z6d{w0:World}{V:Nat->Value}{bb B H:Nat}(L:LiesX V bb B H)(w:World)(x:Bx)(a b:Int)(ha:U16 a)(hb:U8 b)(h:RelX 89 w0 V bb H w x)(hB:B<=w.heap.size)(hp:isPort a=true)(hk:a%32=16)(hq:b/2%2=0)(hwas:x.m.hd=true):Calls Tryz.prog 76 #[.pointer (some ⟨bb,0,none⟩),.int .u16 a,.int .u8 b] w fun e w'=>e= .returned (.tuple #[])/\RelX 89 w0 V bb H w' (mainP x a b)/\Kp B NoX w w':=by
 have d:53248<=a/\a<57344:=by unfold isPort at hp;simpa using hp
 obtain⟨d1,d2⟩:=d
 obtain⟨g,hg⟩:∃g,g=(b%2==1):=⟨_,rfl⟩
 have e1:mainP x a b={x with m:={x.m with gr:=g,hd:=false,ac:=startA (x16 x g false).m,ar:=x.m.ck}}:=by
  unfold mainP
  rw[if_neg kO,if_neg kO,hp,if_pos rfl,hk]
  unfold portP
  simp only[reduceIte,Int.reduceEq]
  unfold freeM x16
  rw[hq,<-hg,hwas]
  rfl
 rw[e1]
 have k1:bits .and .u16 a 31=16:=by rw[z0q a ha,hk]
 have k2:(bits .and .u8 b 1==1)=g:=by rw[z3S b hb,hg]
 have k3:bits .and .u8 b 2=0:=by rw[z3R b hb,hq];rfl
 obtain⟨h1,⟨wv,hbx,hws⟩,hm,hf,hi⟩:=h
 have L2:=L.hi
 have lb:=hbx.lt
 have fb:=hbx.free
 have c67:w.cell? ⟨bb,67,none⟩=some (.bool x.m.gr):=(hbx.cell 67).trans (bx67 ..)
 have c68:w.cell? ⟨bb,68,none⟩=some (.bool true):=by rw[<-hwas];exact(hbx.cell 68).trans (bx68 ..)
 have KB:=zh hbx
 have ST:=zh (And.intro h1 (And.intro hws (And.intro hm (And.intro hf hi))))
 obtain⟨a0,a1⟩:=ha
 have ick:I64 x.m.ck:=hi.ck
 clear e1 hbx hws hm hf hi h1 hp hk hg hq hwas
 have d3:¬a<49152:=by omega
 have d4:¬a<53248:=by omega
 have FIN:=zh (And.intro (RelX.box1 (x':=x16 x g false) L ST.out KB.out (((But.refl bb w).setCell (p:=⟨bb,67,none⟩) rfl (.bool g)).setCell (p:=⟨bb,68,none⟩) rfl (.bool false)) kD (Blk.set (Blk.set KB.out (bs67 V x wv g)) (bs68 V _ wv false)) rfl rfl (inGH ST.out.2.2.2.2 g false)) ((((But.refl bb w).setCell (p:=⟨bb,67,none⟩) rfl (.bool g)).setCell (p:=⟨bb,68,none⟩) rfl (.bool false)).kp (B:=B) L2))
 have SA:=zh (fun W r k=>z3u (z8C (w0:=w0) L) (x16 x g false) W r k)
 rw[wV_A0,wS_A0]at SA
 have IC:=zh (z3v (x16 x g false).m)
 obtain⟨C,hC⟩:∃C,C=startA (x16 x g false).m:=⟨_,rfl⟩
 rw[show start0 (auxG (x16 x g false).m 0%256*256+auxG (x16 x g false).m 1%256)=startA (x16 x g false).m from rfl]at SA
 rw[<-hC]at SA IC⊢
 clear hC
 go_enter Tryz.func76,Tryz.ntmps76
 go_wp2_with fail
 refine(z2w bb _).mono ?_
 rintro e w1 ⟨rfl,hb1⟩
 have hs1:=hb1.size
 have R1:=zh (FIN.out.1.stable L (St.of hb1 (by simp;omega) (Nat.le_refl _)))
 have K1:Hid (Kp B NoX w w1):=zh (FIN.out.2.trans (kp_of hb1))
 have sz1:w.heap.size<=w1.heap.size:=by simpa using hs1
 clear FIN
 go_wp2_with fail
 refine(SA.out _ R1.out kO).mono ?_
 rintro e w2 ⟨rfl,hr2,hk2⟩
 have sz2:=hk2.size
 obtain⟨h1,⟨wv2,hbx,hws⟩,hm,hf,hi⟩:=hr2
 have lb2:=hbx.lt
 have KB2:=zh hbx
 have ST2:=zh (And.intro h1 (And.intro hws (And.intro hm (And.intro hf hi))))
 have KK:=zh (K1.out.trans hk2)
 have one:=z1l C
 clear hbx hws hm hf hi h1 hk2 K1 R1 SA
 go_wp2_with (first|(((with_reducible show wpList _ _ _ _ _ _);refine sA 27 166 164 rfl rfl (bb) (15) (cpuC C) rfl rfl 89 (boxC V (x16 x g false) wv2) (boxC V ((x16 x g false).wAc C) wv2) kB ?_;intro w3 hp_w3 K_w3);have l3:=K_w3.out.lt;have f3:=K_w3.out.free;have c72:w3.cell? ⟨bb,72,none⟩=some (.int .i64 x.m.ck):=(K_w3.out.cell 72).trans (bx72 ..);have c74:w3.cell? ⟨bb,74,none⟩=some (.int .i64 x.m.ar):=(K_w3.out.cell 74).trans (bx74 ..)))
 all_goals exact bodyPost_end (results_none rfl _ _ _) rfl ⟨rfl,RelX.box1 L ST2.out KB2.out (((But.refl bb w2).put hp_w3).setCell (p:=⟨bb,74,none⟩) rfl (.int .i64 x.m.ck)) kD (Blk.set K_w3.out (bs74 V ((x16 x g false).wAc C) wv2 x.m.ck)) rfl rfl (inAc ST2.out.2.2.2.2 IC.out ick),KK.out.trans ((((But.refl bb w2).put hp_w3).setCell (p:=⟨bb,74,none⟩) rfl (.int .i64 x.m.ck)).kp L2)⟩
end Go.Proofs.YtkoocfcnfolkhaaGreatDoor
/- The main processor writes to the pads. Conditions: the machine lies in a box. -/
namespace Go.Proofs.YtkoocfcnfolkhaaGreatDoor
open Go.RowKit Go.Mq
def wpX(x:Bx)(b:Int)(k:Nat):Bx:=if k=0 then x else if k=1 then x.wP0 (writeP x.m.p0 b)else(x.wP0 (writeP x.m.p0 b)).wP1 (writeP x.m.p1 b)
theorem mp_0{w0:World}{V:Nat->Value}{bb B H:Nat}(L:LiesX V bb B H)(w:World)(x:Bx)(a b:Int)(ha:U16 a)(hb:U8 b)(h:RelX 89 w0 V bb H w x)(hB:B<=w.heap.size)(hp:isPort a=true)(hk:a%32=0):Calls Tryz.prog 76 #[.pointer (some ⟨bb,0,none⟩),.int .u16 a,.int .u8 b] w fun e w'=>e= .returned (.tuple #[])/\RelX 89 w0 V bb H w' (mainP x a b)/\Kp B NoX w w':=by
 have d:53248<=a/\a<57344:=by unfold isPort at hp;simpa using hp
 obtain⟨d1,d2⟩:=d
 have e1:mainP x a b=wpX x b 2:=by unfold mainP;rw[if_neg kO,if_neg kO,hp,if_pos rfl,hk];unfold portP;rw[if_pos rfl];rfl
 rw[e1]
 have k1:bits .and .u16 a 31=0:=by rw[z0q a ha,hk]
 have W0:=zh (z1U x.m.p0 b hb)
 have W1:=zh (z1U x.m.p1 b hb)
 have O0:=zh (z1r x.m.p0 b h.inn.p0)
 have O1:=zh (z1r x.m.p1 b h.inn.p1)
 have I0:∀W,(Instr.index 30 (.agg #[.int .u8 x.m.p0.dn,.bool x.m.p0.la,.int .u8 x.m.p0.sh,.int .u8 x.m.p1.dn,.bool x.m.p1.la,.int .u8 x.m.p1.sh]) (.int .i64 0)).run Tryz.prog W= .ok (.agg #[.int .u8 x.m.p0.dn,.bool x.m.p0.la,.int .u8 x.m.p0.sh]) W:=fun W=>by kernel_rfl
 have I1:∀W,(Instr.index 30 (.agg #[.int .u8 x.m.p0.dn,.bool x.m.p0.la,.int .u8 x.m.p0.sh,.int .u8 x.m.p1.dn,.bool x.m.p1.la,.int .u8 x.m.p1.sh]) (.int .i64 1)).run Tryz.prog W= .ok (.agg #[.int .u8 x.m.p1.dn,.bool x.m.p1.la,.int .u8 x.m.p1.sh]) W:=fun W=>by kernel_rfl
 have HH:=zh h
 have LL:=zh L
 obtain⟨h1,⟨wv,hbx,hws⟩,hm,hf,hi⟩:=h
 have L2:=L.hi
 have lb:=hbx.lt
 have KB:=zh hbx
 obtain⟨a0,a1⟩:=ha
 clear e1 hbx hws hm hf hi h1 hp hk L
 have d3:¬a<49152:=by omega
 have d4:¬a<53248:=by omega
 go_enter Tryz.func76,Tryz.ntmps76
 go_wp2_with (first|((with_reducible show wpList _ _ _ _ _ _);refine lA 30 55 rfl rfl (bb) (35) 6 rfl 89 (boxC V x wv) #[.int .u8 x.m.p0.dn,.bool x.m.p0.la,.int .u8 x.m.p0.sh,.int .u8 x.m.p1.dn,.bool x.m.p1.la,.int .u8 x.m.p1.sh] kB Tryz.underlying30 ?_))
 clear KB
 go_loopw [57] (fun i wr=>∃k:Nat,k<=2/\i= .int .i64 k/\Hid (RelX 89 w0 V bb H wr (wpX x b k))/\Hid (Kp B NoX w wr)) (fun i _=>2-(intOf i).toNat)
 case atStart=>exact⟨0,Nat.zero_le _,rfl,HH,zh (Kp.refl _ _ _)⟩
 case round=>
  obtain⟨k,hk,rfl,hr,hkp⟩:=hrel
  clear HH
  rcases(by omega:k=0\/k=1\/k=2)with rfl|rfl|rfl
  ·obtain⟨h1,⟨wv,hbx,hws⟩,hm,hft,hi⟩:=hr.out
   have sz:=hkp.out.size
   have lb1:=hbx.lt
   have KB:=zh hbx
   have ST:=zh (And.intro h1 (And.intro hws (And.intro hm (And.intro hft hi))))
   clear hbx hws hm hft hi h1 hr hk
   go_wp2_with fail
   refine z0g (R:=fun W=>Below wr.heap.size wr W/\Hid (Blk W wr.heap.size #[.int .u8 x.m.p0.dn,.bool x.m.p0.la,.int .u8 x.m.p0.sh] 29)/\Hid (Blk W bb (boxC V (wpX x b 0) wv) 89)) ⟨kL,zh kB,zh kB⟩ ?_
   intro W8 ⟨hb8,K8,KB8⟩
   have sz8:=K8.out.lt
   refine wp_region_held_drew (S:=fun W=>Blk W (wr.heap.size) (#[.int .u8 x.m.p0.dn,.bool x.m.p0.la,.int .u8 x.m.p0.sh]) 29) kR (Blk.drew (show Blk _ (wr.heap.size) (#[.int .u8 x.m.p0.dn,.bool x.m.p0.la,.int .u8 x.m.p0.sh]) 29 from kB)) (fun hS=> ?_)
   refine tH 0 hS ?_
   refine tH 1 hS ?_
   refine tI 2 rfl (by intro w hSw;have c0:=(hSw).cell;go_simp;try with_reducible rfl) hS ?_
   refine tH 3 hS ?_
   try simp only[yA,yB,yC,Act.put,yD,yE,yF]
   refine tH 5 hS ?_
   refine tH 6 hS ?_
   refine rH 4 fun K hK=> ?_
   go_simp
   refine(W0.out _).mono ?_
   rintro e w1 ⟨rfl,hb1⟩
   try go_wp2_with fail
   refine hK.out _ _ (hS.below hb1) (fun hS=> ?_)
   clear hK K
   try simp only[yA,yB,yC,Act.put,yD,yE,yF]
   have KB1:=zh (KB8.out.drew.below hb1)
   refine wpAnyH_take (i:=7) (v:= ?v70) rfl kR kR kR (fun _ _ _ h=>h) (Or.inl ⟨by rfl,?y70⟩) hS ?_
   case y70=>(intro X hSw;go_simp;try with_reducible rfl)
   try simp only[yA,yB,yC,Act.put,yD,yE,yF]
   refine rH 8 fun K hK=> ?_
   rw[if_pos (by rfl)]
   refine z0K 29 (.tmp 68) (.tmp 65) rfl bb 35 #[.int .u8 (writeP x.m.p0 b).dn,.bool (writeP x.m.p0 b).la,.int .u8 (writeP x.m.p0 b).sh] rfl rfl 89 (boxC V (wpX x b 0) wv) (boxC V (wpX x b 1) wv) KB1.out kR kS (by simp[Value.oneCell']) rfl ?_
   intro w2 hp_w2 K_w2
   refine hK.out _ _ (hS.put hp_w2 kO) (fun hS=> ?_)
   clear hK K
   refine wpAnyH_done kR ?_ _
   have FB:But bb wr w2:=((But.of hb8 (Nat.le_refl _)).drew.thenb hb1).put hp_w2
   have RF:Hid (RelX 89 w0 V bb H w2 (wpX x b 1)):=zh (RelX.box1 LL.out ST.out KB.out FB kD K_w2.out rfl rfl (by first|exact inP0 ST.out.2.2.2.2 O0.out|exact inP1 ST.out.2.2.2.2 O1.out))
   have KF:Hid (Kp B NoX w w2):=zh (hkp.out.trans (FB.kp L2))
   clear FB hS hb1 hp_w2 K_w2 KB1 KB8 K8 hb8 ST
   go_wp2
   go_roundw
   case rel=>exact⟨1,by omega,by go_num,RF,KF⟩
   case measure=>simp[intOf]
  ·obtain⟨h1,⟨wv,hbx,hws⟩,hm,hft,hi⟩:=hr.out
   have sz:=hkp.out.size
   have lb1:=hbx.lt
   have KB:=zh hbx
   have ST:=zh (And.intro h1 (And.intro hws (And.intro hm (And.intro hft hi))))
   clear hbx hws hm hft hi h1 hr hk
   go_wp2_with fail
   refine z0g (R:=fun W=>Below wr.heap.size wr W/\Hid (Blk W wr.heap.size #[.int .u8 x.m.p1.dn,.bool x.m.p1.la,.int .u8 x.m.p1.sh] 29)/\Hid (Blk W bb (boxC V (wpX x b 1) wv) 89)) ⟨kL,zh kB,zh kB⟩ ?_
   intro W8 ⟨hb8,K8,KB8⟩
   have sz8:=K8.out.lt
   refine wp_region_held_drew (S:=fun W=>Blk W (wr.heap.size) (#[.int .u8 x.m.p1.dn,.bool x.m.p1.la,.int .u8 x.m.p1.sh]) 29) kR (Blk.drew (show Blk _ (wr.heap.size) (#[.int .u8 x.m.p1.dn,.bool x.m.p1.la,.int .u8 x.m.p1.sh]) 29 from kB)) (fun hS=> ?_)
   refine tH 0 hS ?_
   refine tH 1 hS ?_
   refine tI 2 rfl (by intro w hSw;have c0:=(hSw).cell;go_simp;try with_reducible rfl) hS ?_
   refine tH 3 hS ?_
   try simp only[yA,yB,yC,Act.put,yD,yE,yF]
   refine tH 5 hS ?_
   refine tH 6 hS ?_
   refine rH 4 fun K hK=> ?_
   go_simp
   refine(W1.out _).mono ?_
   rintro e w1 ⟨rfl,hb1⟩
   try go_wp2_with fail
   refine hK.out _ _ (hS.below hb1) (fun hS=> ?_)
   clear hK K
   try simp only[yA,yB,yC,Act.put,yD,yE,yF]
   have KB1:=zh (KB8.out.drew.below hb1)
   refine wpAnyH_take (i:=7) (v:= ?v71) rfl kR kR kR (fun _ _ _ h=>h) (Or.inl ⟨by rfl,?y71⟩) hS ?_
   case y71=>(intro X hSw;go_simp;try with_reducible rfl)
   try simp only[yA,yB,yC,Act.put,yD,yE,yF]
   refine rH 8 fun K hK=> ?_
   rw[if_pos (by rfl)]
   refine z0K 29 (.tmp 68) (.tmp 65) rfl bb 38 #[.int .u8 (writeP x.m.p1 b).dn,.bool (writeP x.m.p1 b).la,.int .u8 (writeP x.m.p1 b).sh] rfl rfl 89 (boxC V (wpX x b 1) wv) (boxC V (wpX x b 2) wv) KB1.out kR kS (by simp[Value.oneCell']) rfl ?_
   intro w2 hp_w2 K_w2
   refine hK.out _ _ (hS.put hp_w2 kO) (fun hS=> ?_)
   clear hK K
   refine wpAnyH_done kR ?_ _
   have FB:But bb wr w2:=((But.of hb8 (Nat.le_refl _)).drew.thenb hb1).put hp_w2
   have RF:Hid (RelX 89 w0 V bb H w2 (wpX x b 2)):=zh (RelX.box1 LL.out ST.out KB.out FB kD K_w2.out rfl rfl (by first|exact inP0 ST.out.2.2.2.2 O0.out|exact inP1 ST.out.2.2.2.2 O1.out))
   have KF:Hid (Kp B NoX w w2):=zh (hkp.out.trans (FB.kp L2))
   clear FB hS hb1 hp_w2 K_w2 KB1 KB8 K8 hb8 ST
   go_wp2
   go_roundw
   case rel=>exact⟨2,by omega,by go_num,RF,KF⟩
   case measure=>simp[intOf]
  ·clear hk
   go_wp2
   exact bodyPost_end (results_none rfl _ _ _) rfl ⟨rfl,hr.out,hkp.out⟩
end Go.Proofs.YtkoocfcnfolkhaaGreatDoor
/- The main processor's bus is one. Conditions: the machine lies in a box. -/
namespace Go.Proofs.YtkoocfcnfolkhaaGreatDoor
open Go.RowKit Go.Mq
theorem z4f{w0:World}{V:Nat->Value}{bb B H:Nat}(L:LiesX V bb B H)(w:World)(x:Bx)(a b:Int)(ha:U16 a)(hb:U8 b)(h:RelX 89 w0 V bb H w x)(hB:B<=w.heap.size):
  Calls Tryz.prog 76 #[.pointer (some ⟨bb,0,none⟩),.int .u16 a,.int .u8 b] w fun e w'=>e= .returned (.tuple #[])/\RelX 89 w0 V bb H w' (mainP x a b)/\Kp B NoX w w':=by
 by_cases hp:isPort a=true
 ·by_cases n0:a%32=0
  ·exact mp_0 L w x a b ha hb h hB hp n0
  by_cases n2:a%32=2
  ·exact mp_2 L w x a b ha hb h hB hp n2
  by_cases n3:a%32=3
  ·exact mp_3 L w x a b ha hb h hB hp n3
  by_cases n4:a%32=4
  ·by_cases q:b/2%2=1
   ·exact z8Z L w x a b ha hb h hB hp n4 q
   ·exact z8Y L w x a b ha hb h hB hp n4 kO
  by_cases n8:a%32=8
  ·exact mp_8 L w x a b ha hb h hB hp n8
  by_cases n10:a%32=10
  ·exact mp_10 L w x a b ha hb h hB hp n10
  by_cases n11:a%32=11
  ·exact mp_11 L w x a b ha hb h hB hp n11
  by_cases n12:a%32=12
  ·exact mp_12 L w x a b ha hb h hB hp n12
  by_cases n13:a%32=13
  ·exact mp_13 L w x a b ha hb h hB hp n13
  by_cases n14:a%32=14
  ·exact mp_14 L w x a b ha hb h hB hp n14
  by_cases n16:a%32=16
  ·by_cases q:b/2%2=1
   ·exact z9a L w x a b ha hb h hB hp n16 q (by cases x.m.hd<;>simp)
   ·cases hh:x.m.hd
    ·exact z7v L w x a b ha hb h hB hp n16 kO hh
    ·exact z6d L w x a b ha hb h hB hp n16 kO hh
  by_cases n17:a%32=17
  ·exact mp_17 L w x a b ha hb h hB hp n17
  exact mp_no L w x a b ha hb h hB hp n0 n2 n3 n4 n8 n10 n11 n12 n13 n14 n16 n17
 ·exact z7u L w x a b ha hb h hB (by simpa using hp)
theorem z0N{c:Prop}[Decidable c]{x y:Bx}{l:List Wr}(h:x.ws=l)(k:y.ws=l):(if c then x else y).ws=l:=by split<;>assumption
theorem z4J(x:Bx)(a b:Int):(mainP x a b).ws=x.ws:=by
 have q:∀p,(portP x p b).ws=x.ws:=fun p=>by
  unfold portP
  refine z0N rfl (z0N rfl (z0N rfl (z0N rfl (z0N rfl (z0N rfl (z0N rfl (z0N rfl (z0N rfl (z0N rfl (z0N rfl (z0N rfl rfl)))))))))))
 unfold mainP
 exact z0N rfl (z0N rfl (z0N (q _) rfl))
theorem z3K(x:Bx)(a:Int):(mainGS x a).ws=x.ws:=by
 unfold mainGS portGS
 repeat' split
 all_goals rfl
theorem z6f{w0:World}{V:Nat->Value}{bb B H:Nat}(L:LiesX V bb B H):
  BusOk Tryz.prog 75 76 #[.pointer (some ⟨bb,0,none⟩)] #[] #[.pointer (some ⟨bb,0,none⟩)] #[] busM (RelX 89 w0 V bb H) B where
 stable:=fun w w' m h k=>h.stable L k
 byte:=fun m a=>by
  show U8 (mainG m.m a%256)
  unfold U8
  omega
 roomg:=fun m a=>by
  show roomX m<=roomX (mainGS m a)
  unfold roomX
  rw[z3K]
  exact Nat.le_refl _
 roomp:=fun m a n=>by
  show roomX m<=roomX (mainP m a n)+1
  unfold roomX
  rw[z4J]
  omega
 eg:=fun args w=>by kernel_rfl
 ep:=fun args w=>by kernel_rfl
 get:=fun w m a ha h hB=>(z4g L w m a ha h hB).mono fun e w' ⟨he,hr,hk⟩=>⟨he.trans (by show _=Ending.returned (.int .u8 (mainG m.m a%256));rw[z8s (z9g h.inn a)]),hr,hk⟩
 put:=fun w m a n ha hn hr h hB=>z4f L w m a n ha hn h hB
end Go.Proofs.YtkoocfcnfolkhaaGreatDoor
