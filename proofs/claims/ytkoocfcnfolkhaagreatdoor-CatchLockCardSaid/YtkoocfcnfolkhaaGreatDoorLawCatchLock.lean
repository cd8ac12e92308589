/- The law CatchLock answers true for every input: who catches up shows what who goes clock by clock shows. Conditions: the machine's memories, and what is pressed, lie in memory; the library's variables hold what they were laid with. -/
import Derived.Test.YtkoocfcnfolkhaaGreatDoorSq
import Derived.Test.YtkoocfcnfolkhaaGreatDoorSh
import Derived.Test.YtkoocfcnfolkhaaGreatDoorP30
import Derived.Test.YtkoocfcnfolkhaaGreatDoorP43
import Derived.Test.YtkoocfcnfolkhaaGreatDoorP41
import Derived.Test.YtkoocfcnfolkhaaGreatDoorP45
set_option linter.unusedVariables false
set_option linter.unusedSimpArgs false
set_option maxHeartbeats 8000000
set_option maxRecDepth 100000
namespace Go.Proofs.YtkoocfcnfolkhaaGreatDoor.catchLock
open Go.RowKit Go.Mq
structure Ran(w w':World)(U:Nat->Value)(lv sv wv:Value)(X:Mach)(ls:List Ln)(ss:List Int)(ws:List Wr):Prop where
 below:Below w.heap.size w w'
 mv:MV w' U X
 sh:ShAt w' lv sv wv ls ss ws
 one:(machC U X).all (·.oneCell')=true
 ons:(#[lv,sv,wv]:Array Value).all (·.oneCell')=true
 ok:∀x∈ls,x.Ok
theorem z0ab{w w':World}{U:Nat->Value}{lv sv wv:Value}{X:Mach}{ls:List Ln}{ss:List Int}{ws:List Wr}(h:RunTold w w' U lv sv wv X ls ss ws):Ran w w' U lv sv wv X ls ss ws:=
 ⟨h.told.below,h.told.mv,⟨Lns.row h.lns,RowAt.bytes (Sms.row h.sms) h.ok.2,Wrs.row h.wrs⟩,z1K h,z1b h,h.ok.1⟩
theorem z5x{w w':World}(h:Below w.heap.size w w'):Ran w w' nilV (.slice none 0 0) (.slice none 0 0) (.slice none 0 0) machZ [] [] []:=
 ⟨h,fun i hi=>z2S w',⟨Lns.row (B:=0) (World.ownsRow_nil _ _ _ _),z2S w',Wrs.row (B:=0) (World.ownsRow_nil _ _ _ _)⟩,by rw[<-zeroM];exact z0F,by simp[Value.oneCell'],fun x h=>by cases h⟩
theorem z9i(V:Nat->Value)(m:Mach)(v:Value)(ins:List Inp)(n:Int)(w:World)(hm:MV w V m)(hi:m.In)(hI:InpsAt w v ins)(hn:I64 n)(hL:Lk w)(h0:chk m=0)(h:19000<m.bm.fr):Calls Tryz.prog 4 #[.agg (machC V m),v,.int .i64 n] w fun e w'=>e= .returned (.bool true)/\Below w.heap.size w w':=by
 have PL:=zh (fun W (k:Below w.heap.size w W)=>z1n W (hL.below k))
 have CK:=zh (fun W (k:Below w.heap.size w W)=>z0J V m W (hm.below k))
 rw[h0]at CK
 have ON0:=zh (z0t m (fun i hi=>hm.one i hi))
 have LG:=zh (fun W=>z2z V m n W ON0.out)
 rw[decide_eq_true h]at LG
 clear hm hi hI hn hL h0 h
 go_enter Tryz.func4,Tryz.ntmps4
 go_wp2_with fail
 refine(PL.out _ kL).mono ?_
 rintro e w1 ⟨rfl,hb1⟩
 have KM:=zh (show Blk w1 w.heap.size (machC V m) 42 from kB)
 have Q1:Below w.heap.size w w1:=kL
 clear hb1
 go_wp2_with (first|((with_reducible show wpList _ _ _ _ _ _);refine lG 42 3 (by rfl) rfl (w.heap.size) (0) 75 rfl 42 (machC V m) (machC V m) kB Tryz.underlying42 ?_))
 refine(CK.out _ Q1).mono ?_
 rintro e w2 ⟨rfl,hb2⟩
 have KM2:=zh (KM.out.below hb2)
 have Q2:=below_then Q1 hb2
 clear hb2 Q1 KM
 go_wp2_with (first|((with_reducible show wpList _ _ _ _ _ _);refine lG 42 3 (by rfl) rfl (w.heap.size) (0) 75 rfl 42 (machC V m) (machC V m) kB Tryz.underlying42 ?_))
 refine(LG.out _).mono ?_
 rintro e w3 ⟨rfl,hb3⟩
 have Q3:=below_then Q2 hb3
 clear hb3 Q2 KM2
 go_wp2_with (first|((with_reducible show wpList _ _ _ _ _ _);refine lG 42 3 (by rfl) rfl (w.heap.size) (0) 75 rfl 42 (machC V m) (machC V m) kB Tryz.underlying42 ?_))
 refine(PL.out _ Q3).mono ?_
 rintro e w4 ⟨rfl,hb4⟩
 go_wp2_with (first|((with_reducible show wpList _ _ _ _ _ _);refine lG 42 3 (by rfl) rfl (w.heap.size) (0) 75 rfl 42 (machC V m) (machC V m) kB Tryz.underlying42 ?_)|go_in)
 go_ret
 exact⟨rfl,kL⟩
theorem runs(V:Nat->Value)(m:Mach)(v:Value)(ins:List Inp)(n:Int)(w:World)(hm:MV w V m)(hi:m.In)(hI:InpsAt w v ins)(hn:I64 n)(hL:Lk w)(h:chk m≠0\/(chk m=0/\¬19000<m.bm.fr))(c:Int)(X:Mach)(ls:List Ln)(ss:List Int)(ws:List Wr)(hll:ls.length<=1000000/\ws.length<=1000000)
  (RC:∀W,Below w.heap.size w W->Calls Tryz.prog 12 #[.agg (machC V m),v,.int .i64 n] W fun e W'=>∃U lv sv wv,e= .returned (.tuple #[.agg (machC U X),.agg #[lv,sv,wv],.int .i64 c])/\Ran W W' U lv sv wv X ls ss ws)
  (RL:∀W,Below w.heap.size w W->Calls Tryz.prog 13 #[.agg (machC V m),v,.int .i64 n] W fun e W'=>∃U lv sv wv,e= .returned (.tuple #[.agg (machC U X),.agg #[lv,sv,wv],.int .i64 c])/\Ran W W' U lv sv wv X ls ss ws):Calls Tryz.prog 4 #[.agg (machC V m),v,.int .i64 n] w fun e w'=>e= .returned (.bool true)/\Below w.heap.size w w':=by
 have PL:=zh (fun W (k:Below w.heap.size w W)=>z1n W (hL.below k))
 have CK:=zh (fun W (k:Below w.heap.size w W)=>z0J V m W (hm.below k))
 have ON0:=zh (z0t m (fun i hi=>hm.one i hi))
 have ONZ:=z0F
 have LG:=zh (fun W=>z2z V m n W ON0.out)
 have HRC:=zh RC
 have HRL:=zh RL
 have HLL:=zh hll
 obtain⟨d,ed⟩:∃d,d=chk m:=⟨_,rfl⟩
 rw[<-ed]at CK h
 clear hm hi hI hn hL RC RL hll ed
 rcases h with h|⟨h0,h⟩
 case' inl=>
  have hd:(d==0)=false:=beq_eq_false_iff_ne.2 h
  clear h
 case' inr=>
  rw[decide_eq_false h]at LG
  subst h0
  clear h
 all_goals
  go_enter Tryz.func4,Tryz.ntmps4
  go_wp2_with (first|((with_reducible show wpList _ _ _ _ _ _);refine lG 42 3 (by rfl) rfl (w.heap.size) (0) 75 rfl 42 (machC V m) (machC V m) kB Tryz.underlying42 ?_))
  refine(PL.out _ kL).mono ?_
  rintro e w1 ⟨rfl,hb1⟩
  have KM:=zh (show Blk w1 w.heap.size (machC V m) 42 from kB)
  have Q1:Below w.heap.size w w1:=kL
  clear hb1
  go_wp2_with (first|((with_reducible show wpList _ _ _ _ _ _);refine lG 42 3 (by rfl) rfl (w.heap.size) (0) 75 rfl 42 (machC V m) (machC V m) kB Tryz.underlying42 ?_))
  refine(CK.out _ Q1).mono ?_
  rintro e w2 ⟨rfl,hb2⟩
  have KM2:=zh (KM.out.below hb2)
  have Q2:=below_then Q1 hb2
  clear hb2 Q1 KM
  go_wp2_with (first|((with_reducible show wpList _ _ _ _ _ _);first|(refine lG 42 3 (by rfl) rfl (w.heap.size) (0) 75 rfl 42 (machC V m) (machC V m) kB Tryz.underlying42 ?_)|(refine lW 42 3 rfl rfl (w.heap.size) rfl (machC V m) kB Tryz.underlying42 ?_)))
  try
   refine(LG.out _).mono ?_
   rintro e w3 ⟨rfl,hb3⟩
   replace KM2:=zh (KM2.out.below hb3)
   replace Q2:=below_then Q2 hb3
   clear hb3
   go_wp2_with (first|((with_reducible show wpList _ _ _ _ _ _);refine lW 42 3 rfl rfl (w.heap.size) rfl (machC V m) kB Tryz.underlying42 ?_))
  refine(HRC.out _ Q2).mono ?_
  rintro e w4 ⟨U1,lv1,sv1,wv1,rfl,T1⟩
  have hb4:=T1.below
  have Q4:=below_then Q2 hb4
  have KM4:=zh (KM2.out.below hb4)
  have ON1:=T1.one
  have OS1:=T1.ons
  have HOK:=zh T1.ok
  have TT1:=zh T1
  have s4:=Q4.size
  have l4:=KM4.out.lt
  clear hb4 T1 Q2 KM2 HRC
  go_wp2_with (first|((with_reducible show wpList _ _ _ _ _ _);first|(refine sW 42 7 31 rfl rfl (w4.heap.size) (machC U1 X) rfl rfl Tryz.zeroCells42 kB ?_;intro w5 hp_w5 K_w5)|(refine sW 46 8 32 rfl rfl (w4.heap.size+1) (#[lv1,sv1,wv1]) rfl rfl #[.slice none 0 0,.slice none 0 0,.slice none 0 0] kB ?_;intro w6 hp_w6 K_w6)|(refine lW 42 3 rfl rfl (w.heap.size) rfl (machC V m) kB Tryz.underlying42 ?_)))
  have b46:Below w4.heap.size w4 w6:=kL
  have Q6:Below w.heap.size w w6:=kL
  have KX6:=zh (K_w5.out.put hp_w6 (Nat.ne_of_lt (Nat.lt_succ_self _)))
  have KS6:=zh K_w6.out
  have M6:=zh (TT1.out.mv.below b46)
  have S6:=zh (TT1.out.sh.below b46)
  clear K_w5 K_w6 hp_w5 hp_w6 b46 Q4 KM4 TT1 s4
  refine(HRL.out _ Q6).mono ?_
  rintro e w7 ⟨U2,lv2,sv2,wv2,rfl,T2⟩
  have hb7:=T2.below
  have Q7:=below_then Q6 hb7
  have KX7:=zh (KX6.out.below hb7)
  have KS7:=zh (KS6.out.below hb7)
  have M7:=zh (M6.out.below hb7)
  have S7:=zh (S6.out.below hb7)
  have ON2:=T2.one
  have OS2:=T2.ons
  have TT2:=zh T2
  have s7:=Q7.size
  clear hb7 T2 Q6 KX6 KS6 M6 S6 HRL
  go_upto_region 5 with(first|((with_reducible show wpList _ _ _ _ _ _);first|(refine sW 42 10 39 rfl rfl (w7.heap.size) (machC U2 X) rfl rfl Tryz.zeroCells42 kB ?_;intro w8 hp_w8 K_w8)|(refine sW 46 11 40 rfl rfl (w7.heap.size+1) (#[lv2,sv2,wv2]) rfl rfl #[.slice none 0 0,.slice none 0 0,.slice none 0 0] kB ?_;intro w9 hp_w9 K_w9)))
  have b79:Below w7.heap.size w7 w9:=kL
  have Q9:Below w.heap.size w w9:=kL
  have KX9:=zh (KX7.out.below b79)
  have KS9:=zh (KS7.out.below b79)
  have KY9:=zh (K_w8.out.put hp_w9 (Nat.ne_of_lt (Nat.lt_succ_self _)))
  have KT9:=zh K_w9.out
  have M9:=zh (M7.out.below b79)
  have S9:=zh (S7.out.below b79)
  have N9:=zh (TT2.out.mv.below b79)
  have R9:=zh (TT2.out.sh.below b79)
  have cc:(c==c)=true:=beq_self_eq_true c
  clear K_w8 K_w9 hp_w8 hp_w9 b79 Q7 KX7 KS7 M7 S7 TT2 s7
  go_wp2_with (first|((with_reducible show wpList _ _ _ _ _ _);first|(refine lG 42 7 (by rfl) rfl (w4.heap.size) (0) 75 rfl 42 (machC U1 X) (machC U1 X) kB Tryz.underlying42 ?_)|(refine lG 42 10 (by rfl) rfl (w7.heap.size) (0) 75 rfl 42 (machC U2 X) (machC U2 X) kB Tryz.underlying42 ?_)))
  refine(z3B U1 U2 X w9 M9.out N9.out).mono ?_
  rintro e w10 ⟨rfl,hb10⟩
  have Q10:=below_then Q9 hb10
  have S10:=zh (S9.out.below hb10)
  have R10:=zh (R9.out.below hb10)
  have KS10:=KS9.out.below hb10
  have KT10:=KT9.out.below hb10
  have d0:w10.cell? ⟨w4.heap.size+1,0,none⟩=some lv1:=KS10.cell 0
  have d1:w10.cell? ⟨w4.heap.size+1,1,none⟩=some sv1:=KS10.cell 1
  have d2:w10.cell? ⟨w4.heap.size+1,2,none⟩=some wv1:=KS10.cell 2
  have y0:w10.cell? ⟨w7.heap.size+1,0,none⟩=some lv2:=KT10.cell 0
  have y1:w10.cell? ⟨w7.heap.size+1,1,none⟩=some sv2:=KT10.cell 1
  have y2:w10.cell? ⟨w7.heap.size+1,2,none⟩=some wv2:=KT10.cell 2
  clear KS10 KT10 KX9 KS9 KY9 KT9 M9 S9 N9 R9 hb10 Q9
  go_wp2_with (first|((with_reducible show wpList _ _ _ _ _ _);first|(refine lG 42 7 (by rfl) rfl (w4.heap.size) (0) 75 rfl 42 (machC U1 X) (machC U1 X) kB Tryz.underlying42 ?_)|(refine lG 42 10 (by rfl) rfl (w7.heap.size) (0) 75 rfl 42 (machC U2 X) (machC U2 X) kB Tryz.underlying42 ?_)))
  refine(z1t _ _ _ _ _ _ _ _ _ w10 S10.out R10.out HOK.out HLL.out.1 HLL.out.2).mono ?_
  rintro e w11 ⟨rfl,hb11⟩
  have Q11:=below_then Q10 hb11
  clear hb11
  go_wp2_with (first|((with_reducible show wpList _ _ _ _ _ _);first|(refine lG 42 7 (by rfl) rfl (w4.heap.size) (0) 75 rfl 42 (machC U1 X) (machC U1 X) kB Tryz.underlying42 ?_)|(refine lG 42 10 (by rfl) rfl (w7.heap.size) (0) 75 rfl 42 (machC U2 X) (machC U2 X) kB Tryz.underlying42 ?_))|go_in)
  go_ret
  exact⟨rfl,Q11⟩
theorem walk(V:Nat->Value)(m:Mach)(v:Value)(ins:List Inp)(n:Int)(w:World)(hm:MV w V m)(hi:m.In)(hI:InpsAt w v ins)(hn:I64 n)(hL:Lk w):Calls Tryz.prog 4 #[.agg (machC V m),v,.int .i64 n] w fun e w'=>e= .returned (.bool true)/\Below w.heap.size w w':=by
 by_cases h0:chk m=0
 ·by_cases h1:19000<m.bm.fr
  ·exact z9i V m v ins n w hm hi hI hn hL h0 h1
  ·by_cases h:errL m ins n=0
   ·obtain⟨hr,hc,h2,h3,h4⟩:=z3R h
    obtain⟨n,rfl⟩:=Int.eq_ofNat_of_zero_le h2
    have hc0:chkFrom m.ck ins=0:=by
     unfold chkI at hc
     split at hc
     ·cases hc
     ·exact hc
    have hd:∀i∈ins,U8 i.dn:=by
     obtain⟨_,_,_,_,_,h,_⟩:=hI
     exact fun i hi=>(h i hi).2.2
    have hl:=z4X (z2C hi hr hc0 hd) hr.time.1.1 n kO
    exact runs V m v ins n w hm hi hI hn hL (.inr ⟨h0,h1⟩) 0 (lkN (cn0 m ins) n).x.m (lkN (cn0 m ins) n).ls (lkN (cn0 m ins) n).ss (lkN (cn0 m ins) n).x.ws ⟨Nat.le_trans hl.1 kO,Nat.le_trans hl.2.2 kO⟩
     (fun W k=>(z1I V m v ins n W (hm.below k) hi hr (hI.below k) hc kO h4 kO).mono fun e W' ⟨U,lv,sv,wv,h1,h2⟩=>⟨U,lv,sv,wv,h1,z0ab h2⟩)
     (fun W k=>(z7v V m v ins n W (hm.below k) hi hr (hI.below k) hc kO h4).mono fun e W' ⟨U,lv,sv,wv,h1,h2⟩=>⟨U,lv,sv,wv,h1,z0ab h2⟩)
   ·exact runs V m v ins n w hm hi hI hn hL (.inr ⟨h0,h1⟩) (errL m ins n) machZ [] [] [] ⟨Nat.zero_le _,Nat.zero_le _⟩
     (fun W k=>(z4F V m v ins n W (hm.below k) (hI.below k) h).mono fun e W' ⟨h1,h2⟩=>⟨nilV,_,_,_,by rw[<-zeroM];exact h1,z5x h2⟩)
     (fun W k=>(z5J V m v ins n W (hm.below k) (hI.below k) h).mono fun e W' ⟨h1,h2⟩=>⟨nilV,_,_,_,by rw[<-zeroM];exact h1,z5x h2⟩)
 ·have h:errL m ins n≠0:=by unfold errL;rw[if_pos h0];exact h0
  exact runs V m v ins n w hm hi hI hn hL (.inl h0) (errL m ins n) machZ [] [] [] ⟨Nat.zero_le _,Nat.zero_le _⟩
   (fun W k=>(z4F V m v ins n W (hm.below k) (hI.below k) h).mono fun e W' ⟨h1,h2⟩=>⟨nilV,_,_,_,by rw[<-zeroM];exact h1,z5x h2⟩)
   (fun W k=>(z5J V m v ins n W (hm.below k) (hI.below k) h).mono fun e W' ⟨h1,h2⟩=>⟨nilV,_,_,_,by rw[<-zeroM];exact h1,z5x h2⟩)
end Go.Proofs.YtkoocfcnfolkhaaGreatDoor.catchLock
