/- A processor is like itself. Conditions: none. -/
import Derived.Test.YtkoocfcnfolkhaaGreatDoorSq
import Derived.Test.YtkoocfcnfolkhaaGreatDoorRows
import Derived.Test.YtkoocfcnfolkhaaGreatDoorP07
import Derived.ChangeKeysEq
import Derived.Laws.StructEq
import Derived.Test.YtkoocfcnfolkhaaGreatDoorSh
import Derived.Test.YtkoocfcnfolkhaaGreatDoorBusM
import Derived.Test.YtkoocfcnfolkhaaGreatDoorBusCopy
import Derived.Test.YtkoocfcnfolkhaaGreatDoorBase
import Derived.Test.YtkoocfcnfolkhaaGreatDoorP08
import Derived.Test.YtkoocfcnfolkhaaGreatDoorLockRn
import Derived.Test.YtkoocfcnfolkhaaGreatDoorCatRn
import Derived.Test.YtkoocfcnfolkhaaGreatDoorP38
import Derived.Test.YtkoocfcnfolkhaaGreatDoorP27
import Derived.Test.YtkoocfcnfolkhaaGreatDoorP29
import Derived.Test.YtkoocfcnfolkhaaGreatDoorP36
import Derived.Lib.LaidTab
import Derived.Lib.LaidU8
import Derived.Lib.ItoaNum
import Derived.Lib.Space
import Derived.Stop.LaidErr
import Derived.LaidHandle
set_option linter.unusedVariables false
set_option linter.unusedSimpArgs false
set_option maxHeartbeats 4000000
set_option maxRecDepth 100000
namespace Go.Proofs.YtkoocfcnfolkhaaGreatDoor
open Go.RowKit Go.Mq
def mkC(r0 r1 r2 r3 r4 r5 r6 r7 pc:Int)(z n c v may wt:Bool):Cp:=⟨fun i=>match i with|0=>r0|1=>r1|2=>r2|3=>r3|4=>r4|5=>r5|6=>r6|7=>r7|_=>0,pc,z,n,c,v,may,wt⟩
theorem z8W(v1 v2:Value)(xs ys:List Int)(w:World)(h1:SliceAt w .u8 v1 xs)(h2:SliceAt w .u8 v2 ys)(h:1024<xs.length\/1024<ys.length):
  Calls Tryz.prog 20 #[v1,v2] w fun e w'=>e= .returned (.tuple #[.agg Tryz.zeroCells42,.int .i64 2])/\Below w.heap.size w w':=by
 obtain⟨a1,q1,rfl,-⟩:=h1
 obtain⟨a2,q2,rfl,-⟩:=h2
 obtain⟨n1,e1⟩:∃n,n=xs.length:=⟨_,rfl⟩
 obtain⟨n2,e2⟩:∃n,n=ys.length:=⟨_,rfl⟩
 rw[<-e1]at h⊢
 rw[<-e2]at h⊢
 have ONZ:=z0x
 clear e1 e2
 by_cases c1:1024<n1
 ·have i1:(1024:Int)<n1:=by omega
  clear h
  go_enter Tryz.func20,Tryz.ntmps20
  go_wp2_with (first|((with_reducible show wpList _ _ _ _ _ _);refine sW 42 4 15 rfl rfl (w.heap.size) Tryz.zeroCells42 rfl rfl Tryz.zeroCells42 kB ?_;intro w2 hp_w2 K_w2))
  exact bodyPost_ret (z0k Tryz.results20 _ _ (w.heap.size) 42 _ _ rfl K_w2.out Tryz.underlying42 rfl kR) rfl ⟨rfl,kL⟩
 ·have i1:¬(1024:Int)<n1:=by omega
  have i2:(1024:Int)<n2:=by omega
  clear h
  go_enter Tryz.func20,Tryz.ntmps20
  go_wp2_with (first|((with_reducible show wpList _ _ _ _ _ _);refine sW 42 4 15 rfl rfl (w.heap.size) Tryz.zeroCells42 rfl rfl Tryz.zeroCells42 kB ?_;intro w2 hp_w2 K_w2))
  exact bodyPost_ret (z0k Tryz.results20 _ _ (w.heap.size) 42 _ _ rfl K_w2.out Tryz.underlying42 rfl kR) rfl ⟨rfl,kL⟩
theorem z5N{w w':World}{U:Nat->Value}{lv sv wv:Value}{m:Mach}{ls:List Ln}{ss:List Int}{ws:List Wr}(h:RunTold w w' U lv sv wv m ls ss ws):(machC U m).all (·.oneCell')=true:=z2V h.told
theorem z3y{w w':World}{U:Nat->Value}{lv sv wv:Value}{m:Mach}{ls:List Ln}{ss:List Int}{ws:List Wr}(h:RunTold w w' U lv sv wv m ls ss ws):(#[lv,sv,wv]:Array Value).all (·.oneCell')=true:=by
 obtain⟨a1,c1,rfl⟩:=z0a h.lns
 obtain⟨a2,c2,rfl⟩:=z0a h.sms
 obtain⟨a3,c3,rfl⟩:=z0a h.wrs
 simp[Value.oneCell']
def errP(xs ys:List Int)(ins:List Inp)(f:Int):Int:=if 1024<xs.length\/1024<ys.length then 2 else if f<0\/20<f then 3 else chkI ins 0
theorem z1a(xs ys:List Int):(newMach xs ys).sd.wt=0/\(newMach xs ys).bm.ln=0/\(newMach xs ys).bm.pt=0/\(newMach xs ys).bm.fr=0/\(newMach xs ys).ck=0/\(newMach xs ys).mr=0/\(newMach xs ys).ar=0:=⟨rfl,rfl,rfl,rfl,rfl,rfl,rfl⟩
theorem z3x{w w':World}{g:Nat}{k:IntKind}{v:Value}{xs:List Int}(h:SliceAt w k v xs)(p:Put g w w')(hne:∀b,v.ownBlock=some b->b≠g):SliceAt w' k v xs:=by
 obtain⟨a,cap,rfl,h1,h2,h3,h4⟩:=h
 refine⟨a,cap,rfl,h1,h2,h3,fun h0=> ?_⟩
 obtain⟨b,off,rfl,hl,hc⟩:=h4 h0
 refine⟨b,off,rfl,by rw[p.size];exact hl,fun i hi=> ?_⟩
 have e:w'.heap[b]? =w.heap[b]? :=p.other b (hne b rfl)
 have:=hc i hi
 unfold World.cell? at this⊢
 rw[e]
 exact this
theorem RunTold.lift{w w1 w0 w2 w3:World}{U:Nat->Value}{lv sv wv:Value}{m:Mach}{ls:List Ln}{ss:List Int}{ws:List Wr}{g1 g2:Nat}(h:RunTold w w1 U lv sv wv m ls ss ws)
  (hb:Below w0.heap.size w0 w)(p1:Put g1 w1 w2)(p2:Put g2 w2 w3)(k1:w0.heap.size<=g1)(k2:w0.heap.size<=g2)(l1:g1<w.heap.size)(l2:g2<w.heap.size):RunTold w0 w3 U lv sv wv m ls ss ws:=by
 have hs:=hb.size
 refine⟨⟨below_put (below_put (below_then hb h.told.below) p1 k1) p2 k2,fun i hi=> ?_,h.told.inn,h.told.fit,fun i g hi hg=>Nat.le_trans hs (h.told.new i g hi hg)⟩,z0t (own_put (own_put h.lns p1 l1) p2 l2) hs,z0t (own_put (own_put h.sms p1 l1) p2 l2) hs,z0t (own_put (own_put h.wrs p1 l1) p2 l2) hs,h.ok⟩
 have q:=h.told.new i
 exact z3x (z3x (h.told.mv i hi) p1 (fun b e=>by have:=q b hi e;omega)) p2 (fun b e=>by have:=q b hi e;omega)
theorem z5V(v1 v2 v:Value)(xs ys:List Int)(ins:List Inp)(f:Int)(w:World)(bx:Bytes8 xs)(bY:Bytes8 ys)(h1:SliceAt w .u8 v1 xs)(h2:SliceAt w .u8 v2 ys)(hI:InpsAt w v ins)(h:1024<xs.length\/1024<ys.length):Calls Tryz.prog 6 #[v1,v2,v,.int .i64 f] w fun e w'=>e= .returned (.tuple #[.agg Tryz.zeroCells42,.agg #[.slice none 0 0,.slice none 0 0,.slice none 0 0],.int .i64 (errP xs ys ins f)])/\Below w.heap.size w w':=by
 have NB:=zh (fun W (k:Below w.heap.size w W)=>z8W v1 v2 xs ys W (h1.below k) (h2.below k) h)
 have ec:errP xs ys ins f=2:=if_pos h
 rw[ec]
 have ONZ:=z0x
 clear h1 h2 hI h ec bx bY
 go_enter Tryz.func6,Tryz.ntmps6
 go_wp2_with fail
 refine(NB.out _ kL).mono ?_
 rintro e w1 ⟨rfl,hb1⟩
 have s1:=hb1.size
 have K8:=zh (show Blk w1 w.heap.size Tryz.zeroCells42 42 from kB)
 have K9:=zh (show Blk w1 (w.heap.size+1) #[.slice none 0 0,.slice none 0 0,.slice none 0 0] 46 from kB)
 have Q1:Below w.heap.size w w1:=kL
 have l8:=K8.out.lt
 have l9:=K9.out.lt
 clear hb1
 go_wp2_with (first|((with_reducible show wpList _ _ _ _ _ _);first|(refine sW 42 11 17 rfl rfl (w1.heap.size) Tryz.zeroCells42 rfl rfl Tryz.zeroCells42 kB ?_;intro w2 hp_w2 K_w2)|(refine sW 42 8 21 rfl rfl (w.heap.size) Tryz.zeroCells42 rfl rfl Tryz.zeroCells42 kB ?_;intro w3 hp_w3 K_w3)|(refine sW 46 9 22 rfl rfl (w.heap.size+1) #[.slice none 0 0,.slice none 0 0,.slice none 0 0] rfl rfl #[.slice none 0 0,.slice none 0 0,.slice none 0 0] kB ?_;intro w4 hp_w4 K_w4)))
 exact bodyPost_ret (z0z Tryz.results6 _ _ w.heap.size (w.heap.size+1) 42 46 _ _ _ _ rfl (K_w3.out.put hp_w4 (Nat.ne_of_lt (Nat.lt_succ_self _))) Tryz.underlying42 rfl kR rfl K_w4.out Tryz.underlying46 rfl kR) rfl ⟨rfl,kL⟩
theorem z4b(v1 v2 v:Value)(xs ys:List Int)(ins:List Inp)(f:Int)(w:World)(bx:Bytes8 xs)(bY:Bytes8 ys)(h1:SliceAt w .u8 v1 xs)(h2:SliceAt w .u8 v2 ys)(hI:InpsAt w v ins)(h0:¬(1024<xs.length\/1024<ys.length))(h:f<0\/(¬f<0/\20<f)):Calls Tryz.prog 6 #[v1,v2,v,.int .i64 f] w fun e w'=>e= .returned (.tuple #[.agg Tryz.zeroCells42,.agg #[.slice none 0 0,.slice none 0 0,.slice none 0 0],.int .i64 (errP xs ys ins f)])/\Below w.heap.size w w':=by
 have NB:=zh (fun W (k:Below w.heap.size w W)=>z8q v1 v2 xs ys W bx bY (h1.below k) (h2.below k) kO kO)
 have ec:errP xs ys ins f=3:=by unfold errP;rw[if_neg h0,if_pos kO]
 rw[ec]
 have ONZ:=z0x
 clear h1 h2 hI h0 ec bx bY
 rcases h with hn|⟨hn,hp⟩
 all_goals
  go_enter Tryz.func6,Tryz.ntmps6
  go_wp2_with (first|((with_reducible show wpList _ _ _ _ _ _);first|(refine sW 42 11 17 rfl rfl (w1.heap.size) Tryz.zeroCells42 rfl rfl Tryz.zeroCells42 kB ?_;intro w2 hp_w2 K_w2)|(refine sW 42 8 21 rfl rfl (w.heap.size) Tryz.zeroCells42 rfl rfl Tryz.zeroCells42 kB ?_;intro w3 hp_w3 K_w3)|(refine sW 46 9 22 rfl rfl (w.heap.size+1) #[.slice none 0 0,.slice none 0 0,.slice none 0 0] rfl rfl #[.slice none 0 0,.slice none 0 0,.slice none 0 0] kB ?_;intro w4 hp_w4 K_w4)))
  refine(NB.out _ kL).mono ?_
  rintro e w1 ⟨U0,rfl,T0⟩
  have hb1:=T0.below
  have s1:=hb1.size
  have ON0:=z2V T0
  have K8:=zh (show Blk w1 w.heap.size Tryz.zeroCells42 42 from kB)
  have K9:=zh (show Blk w1 (w.heap.size+1) #[.slice none 0 0,.slice none 0 0,.slice none 0 0] 46 from kB)
  have Q1:Below w.heap.size w w1:=kL
  have l8:=K8.out.lt
  have l9:=K9.out.lt
  clear T0 NB hb1
  go_wp2_with (first|((with_reducible show wpList _ _ _ _ _ _);first|(refine sW 42 11 17 rfl rfl (w1.heap.size) (machC U0 (newMach xs ys)) rfl rfl Tryz.zeroCells42 kB ?_;intro w2 hp_w2 K_w2)|(refine sW 42 8 30 rfl rfl (w.heap.size) Tryz.zeroCells42 rfl rfl Tryz.zeroCells42 kB ?_;intro w3 hp_w3 K_w3)|(refine sW 46 9 31 rfl rfl (w.heap.size+1) #[.slice none 0 0,.slice none 0 0,.slice none 0 0] rfl rfl #[.slice none 0 0,.slice none 0 0,.slice none 0 0] kB ?_;intro w4 hp_w4 K_w4)))
  exact bodyPost_ret (z0z Tryz.results6 _ _ w.heap.size (w.heap.size+1) 42 46 _ _ _ _ rfl (K_w3.out.put hp_w4 (Nat.ne_of_lt (Nat.lt_succ_self _))) Tryz.underlying42 rfl kR rfl K_w4.out Tryz.underlying46 rfl kR) rfl ⟨rfl,kL⟩
theorem z4D(v1 v2 v:Value)(xs ys:List Int)(ins:List Inp)(f:Int)(w:World)(bx:Bytes8 xs)(bY:Bytes8 ys)(h1:SliceAt w .u8 v1 xs)(h2:SliceAt w .u8 v2 ys)(hI:InpsAt w v ins)(F:Nat)(hF:f=F)(hF1:F<=20)(l1:xs.length<=1024)(l2:ys.length<=1024)(c:Int)(X:Mach)(R:World->World->(Nat->Value)->Value->Value->Value->Prop)
  (one:∀w w' U lv sv wv,R w w' U lv sv wv->(machC U X).all (·.oneCell')=true/\(#[lv,sv,wv]:Array Value).all (·.oneCell')=true/\Below w.heap.size w w')
  (lift:∀w w1 w0 w2 w3 g1 g2 U lv sv wv,R w w1 U lv sv wv->Below w0.heap.size w0 w->Put g1 w1 w2->Put g2 w2 w3->w0.heap.size<=g1->w0.heap.size<=g2->g1<w.heap.size->g2<w.heap.size->R w0 w3 U lv sv wv)
  (RC:∀W U,MV W U (newMach xs ys)->(newMach xs ys).In->(newMach xs ys).Fit->InpsAt W v ins->Calls Tryz.prog 12 #[.agg (machC U (newMach xs ys)),v,.int .i64 ((640*F:Nat):Int)] W fun e W'=>∃U lv sv wv,e= .returned (.tuple #[.agg (machC U X),.agg #[lv,sv,wv],.int .i64 c])/\R W W' U lv sv wv):
  Calls Tryz.prog 6 #[v1,v2,v,.int .i64 f] w fun e w'=>∃U lv sv wv,e= .returned (.tuple #[.agg (machC U X),.agg #[lv,sv,wv],.int .i64 c])/\R w w' U lv sv wv:=by
 have NB:=zh (fun W (k:Below w.heap.size w W)=>z8q v1 v2 xs ys W bx bY (h1.below k) (h2.below k) l1 l2)
 obtain⟨G,hG⟩:∃G:Int,G=((640*F:Nat):Int):=⟨_,rfl⟩
 rw[<-hG]at RC
 have f0:¬f<0:=by omega
 have f1:¬20<f:=by omega
 have eG:Hid (f*10*64=G):=zh kO
 have fb:0<=f/\f<=20:=by omega
 have HRC:=zh RC
 have HI:=zh (fun W (k:Below w.heap.size w W)=>hI.below k)
 have HO:=zh one
 have HLi:=zh lift
 have ONZ:=z0x
 clear h1 h2 hI bx bY hF hF1 l1 l2 hG RC one lift
 go_enter Tryz.func6,Tryz.ntmps6
 go_wp2_with (first|((with_reducible show wpList _ _ _ _ _ _);first|(refine sW 42 11 17 rfl rfl (w1.heap.size) (machC U0 (newMach xs ys)) rfl rfl Tryz.zeroCells42 kB ?_;intro w2 hp_w2 K_w2)|(refine sW 42 8 30 rfl rfl (w.heap.size) Tryz.zeroCells42 rfl rfl Tryz.zeroCells42 kB ?_;intro w3 hp_w3 K_w3)|(refine sW 46 9 31 rfl rfl (w.heap.size+1) #[.slice none 0 0,.slice none 0 0,.slice none 0 0] rfl rfl #[.slice none 0 0,.slice none 0 0,.slice none 0 0] kB ?_;intro w4 hp_w4 K_w4)))
 have q0:Below w.heap.size w ((w.alloc (.cells Tryz.zeroCells42 42)).alloc (.cells #[.slice none 0 0,.slice none 0 0,.slice none 0 0] 46)):=kL
 refine(NB.out _ kL).mono ?_
 rintro e w1 ⟨U0,rfl,T0⟩
 have hb1:=T0.below
 have K8:=zh (show Blk w1 w.heap.size Tryz.zeroCells42 42 from kB)
 have K9:=zh (show Blk w1 (w.heap.size+1) #[.slice none 0 0,.slice none 0 0,.slice none 0 0] 46 from kB)
 have Q1:Below w.heap.size w w1:=kL
 have ON0:=z2V T0
 have TT0:=zh T0
 have l8:=K8.out.lt
 have l9:=K9.out.lt
 clear T0 NB hb1 q0
 go_upto_region 6 with(first|((with_reducible show wpList _ _ _ _ _ _);refine sW 42 11 17 rfl rfl (w1.heap.size) (machC U0 (newMach xs ys)) rfl rfl Tryz.zeroCells42 kB ?_;intro w2 hp_w2 K_w2))
 have b12:Below w1.heap.size w1 w2:=kL
 have Q2:=Q1.trans (b12.mono Q1.size)
 have KM:=zh K_w2.out
 have K82:=zh (K8.out.below b12)
 have K92:=zh (K9.out.below b12)
 have RN:=zh (HRC.out w2 U0 (TT0.out.mv.below b12) TT0.out.inn TT0.out.fit (HI.out w2 Q2))
 have s2:=b12.size
 clear K_w2 hp_w2 b12 Q1 TT0 HRC HI K8 K9
 go_wp2_with (first|((with_reducible show wpList _ _ _ _ _ _);refine lW 42 11 rfl rfl (w1.heap.size) rfl (machC U0 (newMach xs ys)) kB Tryz.underlying42 ?_))
 rw[eG.out]
 refine RN.out.mono ?_
 rintro e w3' ⟨U1,lv,sv,wv,rfl,T1⟩
 obtain⟨ON1,OS1,hb3⟩:=HO.out _ _ _ _ _ _ T1
 have K83:=zh (K82.out.below hb3)
 have K93:=zh (K92.out.below hb3)
 have TT1:=zh T1
 clear T1 RN K82 K92 KM HO
 go_wp2_with (first|((with_reducible show wpList _ _ _ _ _ _);first|(refine sW 42 8 38 rfl rfl (w.heap.size) (machC U1 X) rfl rfl Tryz.zeroCells42 kB ?_;intro w3 hp_w3 K_w3)|(refine sW 46 9 39 rfl rfl (w.heap.size+1) (#[lv,sv,wv]) rfl rfl #[.slice none 0 0,.slice none 0 0,.slice none 0 0] kB ?_;intro w4 hp_w4 K_w4)))
 exact bodyPost_ret (z0z Tryz.results6 _ _ w.heap.size (w.heap.size+1) 42 46 _ _ _ _ rfl (K_w3.out.put hp_w4 (Nat.ne_of_lt (Nat.lt_succ_self _))) Tryz.underlying42 rfl kR rfl K_w4.out Tryz.underlying46 rfl kR) rfl ⟨U1,lv,sv,wv,rfl,HLi.out _ _ _ _ _ _ _ _ _ _ _ TT1.out Q2 hp_w3 hp_w4 (Nat.le_refl _) (Nat.le_succ _) kO kO⟩
theorem z7p(v1 v2 v:Value)(xs ys:List Int)(ins:List Inp)(f:Int)(w:World)(bx:Bytes8 xs)(bY:Bytes8 ys)(h1:SliceAt w .u8 v1 xs)(h2:SliceAt w .u8 v2 ys)(hI:InpsAt w v ins)(h:errP xs ys ins f≠0):Calls Tryz.prog 6 #[v1,v2,v,.int .i64 f] w fun e w'=>e= .returned (.tuple #[.agg Tryz.zeroCells42,.agg #[.slice none 0 0,.slice none 0 0,.slice none 0 0],.int .i64 (errP xs ys ins f)])/\Below w.heap.size w w':=by
 by_cases h0:1024<xs.length\/1024<ys.length
 ·exact z5V v1 v2 v xs ys ins f w bx bY h1 h2 hI h0
 ·by_cases h3:f<0\/20<f
  ·exact z4b v1 v2 v xs ys ins f w bx bY h1 h2 hI h0 kO
  ·have e:errP xs ys ins f=chkI ins 0:=by unfold errP;rw[if_neg h0,if_neg h3]
   rw[e]at h⊢
   obtain⟨F,hF⟩:=Int.eq_ofNat_of_zero_le (show 0<=f by omega)
   refine(z4D v1 v2 v xs ys ins f w bx bY h1 h2 hI F hF kO kO kO (chkI ins 0) machZ (fun w w' U lv sv wv=>U=nilV/\lv= .slice none 0 0/\sv= .slice none 0 0/\wv= .slice none 0 0/\Below w.heap.size w w') ?_ ?_ ?_).mono ?_
   ·rintro w w' U lv sv wv ⟨rfl,rfl,rfl,rfl,hb⟩
    exact⟨by rw[<-zeroM];exact z0x,by simp[Value.oneCell'],hb⟩
   ·rintro w w1 w0 w2 w3 g1 g2 U lv sv wv ⟨r1,r2,r3,r4,hb⟩ hb0 p1 p2 k1 k2- -
    exact⟨r1,r2,r3,r4,below_put (below_put (below_then hb0 hb) p1 k1) p2 k2⟩
   ·intro W U hm hi hf hI
    have hr:=z3d hf (z1a xs ys)
    have ee:errL (newMach xs ys) ins ((640*F:Nat):Int)=chkI ins 0:=by
     unfold errL
     rw[if_neg (fun k=>k ((z1E _).2 hr))]
     exact if_pos h
    refine(z6K U (newMach xs ys) v ins ((640*F:Nat):Int) W hm hI (by rw[ee];exact h)).mono ?_
    rintro e W' ⟨he,hb⟩
    exact⟨nilV,_,_,_,by rw[<-zeroM,<-ee];exact he,rfl,rfl,rfl,rfl,hb⟩
   ·rintro e w' ⟨U,lv,sv,wv,he,rfl,rfl,rfl,rfl,hb⟩
    exact⟨by rw[<-zeroM]at he;exact he,hb⟩
theorem z5W(v1 v2 v:Value)(xs ys:List Int)(ins:List Inp)(f:Int)(w:World)(bx:Bytes8 xs)(bY:Bytes8 ys)(h1:SliceAt w .u8 v1 xs)(h2:SliceAt w .u8 v2 ys)(hI:InpsAt w v ins)(F:Nat)(hF:f=F)(h:errP xs ys ins f=0):
  F<=20/\chkI ins 0=0/\Calls Tryz.prog 6 #[v1,v2,v,.int .i64 f] w fun e w'=>∃U lv sv wv,e= .returned (.tuple #[.agg (machC U (lkN (cn0 (newMach xs ys) ins) (640*F)).x.m),.agg #[lv,sv,wv],.int .i64 0])/\
   RunTold w w' U lv sv wv (lkN (cn0 (newMach xs ys) ins) (640*F)).x.m (lkN (cn0 (newMach xs ys) ins) (640*F)).ls (lkN (cn0 (newMach xs ys) ins) (640*F)).ss (lkN (cn0 (newMach xs ys) ins) (640*F)).x.ws:=by
 unfold errP at h
 by_cases h0:1024<xs.length\/1024<ys.length
 ·rw[if_pos h0]at h;cases h
 ·by_cases h3:f<0\/20<f
  ·rw[if_neg h0,if_pos h3]at h;cases h
  ·rw[if_neg h0,if_neg h3]at h
   refine⟨by omega,h,z4D v1 v2 v xs ys ins f w bx bY h1 h2 hI F hF kO kO kO 0 _ (fun w w' U lv sv wv=>RunTold w w' U lv sv wv (lkN (cn0 (newMach xs ys) ins) (640*F)).x.m (lkN (cn0 (newMach xs ys) ins) (640*F)).ls (lkN (cn0 (newMach xs ys) ins) (640*F)).ss (lkN (cn0 (newMach xs ys) ins) (640*F)).x.ws) ?_ ?_ ?_⟩
   ·exact fun w w' U lv sv wv k=>⟨z5N k,z3y k,k.told.below⟩
   ·exact fun w w1 w0 w2 w3 g1 g2 U lv sv wv k hb p1 p2 k1 k2 q1 q2=>k.lift hb p1 p2 k1 k2 q1 q2
   ·intro W U hm hi hf hI
    have z:=z1a xs ys
    exact z7W U (newMach xs ys) v ins (640*F) W hm hi (z3d hf z) hI (by rw[z.2.2.2.2.1];exact h) kO (by rw[z.2.2.2.2.1];omega) (by rw[z.2.2.2.1];decide)
structure Sn(m:Mach)(k:Nat)(c:Cn):Prop where
 wt:c.x.m.sd.wt=(runS m.sd k).wt
 ss:c.ss.length=(smp m.sd k).length
theorem Sn.next{m:Mach}{k:Nat}{c:Cn}(h:Sn m k c)(a:At m k c):Sn m (k+1) (lk1 c):=by
 have w1:=a.wk.press a.dn
 have kp:=z1b c.ins c.x.m
 have kx:=(z2B _ w1.inn).2
 have e1:(doX (c.x.setM (pressA c.x.m c.ins))).m.sd.wt=(runS m.sd k).wt:=kx.wt.trans ((congrArg Sd.wt kp.sd).trans h.wt)
 have e2:(pressA c.x.m c.ins).sd.wt=(runS m.sd k).wt:=(congrArg Sd.wt kp.sd).trans h.wt
 constructor
 ·rw[z2q]
  show(if(doX (c.x.setM (pressA c.x.m c.ins))).m.sd.wt=0 then 15 else(doX (c.x.setM (pressA c.x.m c.ins))).m.sd.wt-1)=(if(runS m.sd k).wt=0 then 15 else(runS m.sd k).wt-1)
  rw[e1]
 ·show(c.ss++smp (pressA c.x.m c.ins).sd 1).length=_
  rw[List.length_append,z2Y,z4y m.sd k,List.length_append,h.ss]
  unfold dueL
  rw[e2]
  split<;>rfl
theorem Sn.run{m:Mach}{c:Cn}(h:Sn m 0 c)(a:At m 0 c)(n:Nat)(m0:0<=m.ck)(m1:m.ck+n<=1000000):Sn m n (lkN c n):=by
 induction n with
 |zero=>exact h
 |succ n ih=>
  rw[z1k]
  have a':=a.run n m0 kO
  rw[Nat.zero_add]at a'
  exact(ih kO).next a'
def drB(b:Bm):List (Int×Int):=if b.pt=0/\b.ln<8 then [(b.fr,b.ln)]else []
def drN(b:Bm):Nat->List (Int×Int)
 |0=>[]
 |k+1=>drN b k++drB (runBm b k)
theorem z9u{m:Mach}{c:Cn}(a:At m 0 c)(b:Bt m 0 c)(hl:c.ls=[])(n:Nat)(hb:m.bm.In)(m0:0<=m.ck)(m1:m.ck+n<=1000000)(f0:0<=m.bm.fr)(f1:m.bm.fr<=19900)(hn:n<=20000):
  (lkN c n).ls.map (fun l=>(l.fr,l.ln))=drN m.bm n:=by
 induction n with
 |zero=>show c.ls.map _=[];rw[hl];rfl
 |succ n ih=>
  rw[z1k]
  have a':=a.run n m0 kO
  have b':=b.run a n hb m0 kO f0 f1 kO
  rw[Nat.zero_add]at a' b'
  have kp:=z1b (lkN c n).ins (lkN c n).x.m
  show((lkN c n).ls++drawO (pressA (lkN c n).x.m (lkN c n).ins)).map _=drN m.bm n++drB (runBm m.bm n)
  rw[List.map_append,ih kO kO]
  congr 1
  unfold drawO drB
  rw[kp.bm,b'.ln,b'.pt,b'.fr]
  split<;>rfl
theorem z9v(b:Bm)(k j:Nat):∃t,drN b (k+j)=drN b k++t:=by
 induction j with
 |zero=>exact⟨[],(List.append_nil _).symm⟩
 |succ j ih=>
  obtain⟨t,e⟩:=ih
  exact⟨t++drB (runBm b (k+j:Nat)),by rw[<-Nat.add_assoc];show drN b (k+j)++_=_;rw[e,List.append_assoc]⟩
theorem z0aD{b:Bm}{k n:Nat}(h:k<n):∃t,drN b n=drN b k++(drB (runBm b k)++t):=by
 obtain⟨t,e⟩:=z9v b (k+1) (n-(k+1))
 rw[show k+1+(n-(k+1))=n by omega]at e
 exact⟨t,by rw[e];show(drN b k++_)++t=_;rw[List.append_assoc]⟩
theorem z6w{b:Bm}{k n:Nat}(h:k<=n)(hp:∀i:Nat,k<=i->i<n->(runBm b i).pt≠0):drN b n=drN b k:=by
 induction n with
 |zero=>rw[Nat.le_zero.1 h]
 |succ n ih=>
  by_cases e:k=n+1
  ·rw[e]
  ·have:drN b (n+1)=drN b n++drB (runBm b n):=rfl
   rw[this,ih kO (fun i h1 h2=>hp i h1 kO)]
   unfold drB
   rw[if_neg (fun q=>hp n kO kO q.1),List.append_nil]
theorem z6N{b:Bm}(hb:b.In)(j n a:Nat)(ha:(a:Int)=nextB b+64*j)(h:a<n):drN b (min (a+64) n)=drN b a++drB (runBm b a):=by
 have:drN b (min (a+64) n)=drN b (a+1):=z6w kO (fun i h1 h2=>by
  obtain⟨k1,k2,k3,k4⟩:=hb
  unfold nextB at ha
  show(b.ln*64+b.pt+i)%640%64≠0
  omega)
 rw[this]
 rfl
theorem bl_at{b:Bm}(hb:b.In)(j a:Nat)(ha:(a:Int)=nextB b+64*j):(runBm b a).pt=0:=by
 obtain⟨k1,k2,k3,k4⟩:=hb
 unfold nextB at ha
 show(b.ln*64+b.pt+a)%640%64=0
 omega
def CtAt(b:Bm)(n a c:Nat):Prop:=(∃j:Nat,(a:Int)=nextB b+64*j)/\c=(drN b (min a n)).length
theorem CtAt.next{b:Bm}{n a c:Nat}(h:CtAt b n a c)(hb:b.In)(ha:a<n):CtAt b n (a+64) (c+if(runBm b a).ln<8 then 1 else 0):=by
 obtain⟨⟨j,hj⟩,hc⟩:=h
 refine⟨⟨j+1,by omega⟩,?_⟩
 rw[z6N hb j n a hj ha,List.length_append,hc,Nat.min_eq_left (Nat.le_of_lt ha)]
 congr 1
 unfold drB
 have hp:=bl_at hb j a hj
 by_cases hl:(runBm b a).ln<8
 ·rw[if_pos hl,if_pos ⟨hp,hl⟩];rfl
 ·rw[if_neg hl,if_neg (fun k=>hl k.2)];rfl
theorem CtAt.last{b:Bm}{n a c:Nat}(h:CtAt b n a c)(ha:n<=a):c=(drN b n).length:=by
 have:=h.2
 rw[Nat.min_eq_right ha]at this
 exact this
theorem CtAt.get{b:Bm}{n a c:Nat}(h:CtAt b n a c)(hb:b.In)(ha:a<n)(hl:(runBm b a).ln<8){ls:List Ln}(e:ls.map (fun l=>(l.fr,l.ln))=drN b n):
  c<ls.length/\(ls.getD c Ln0).fr=(runBm b a).fr/\(ls.getD c Ln0).ln=(runBm b a).ln:=by
 obtain⟨⟨j,hj⟩,hc⟩:=h
 rw[Nat.min_eq_left (Nat.le_of_lt ha)]at hc
 obtain⟨t,et⟩:=z0aD (b:=b) ha
 have hd:drB (runBm b a)=[((runBm b a).fr,(runBm b a).ln)]:=by
  unfold drB
  rw[if_pos ⟨bl_at hb j a hj,hl⟩]
 rw[et,hd]at e
 have hlen:=congrArg List.length e
 rw[List.length_map,List.length_append,<-hc]at hlen
 have h1:c<ls.length:=by simp at hlen;omega
 have hg:(ls.map (fun l=>(l.fr,l.ln)))[c]? =_:=congrArg (fun l=>l[c]?) e
 rw[List.getElem?_map,List.getElem?_eq_getElem h1,List.getElem?_append_right kO,<-hc,Nat.sub_self]at hg
 simp only[Option.map_some,List.singleton_append,List.getElem?_cons_zero,Option.some.injEq,Prod.mk.injEq]at hg
 rw[List.getD_eq_getElem?_getD,List.getElem?_eq_getElem h1]
 exact⟨h1,hg.1,hg.2⟩
end Go.Proofs.YtkoocfcnfolkhaaGreatDoor
namespace Go.Mq
open Go.RowKit
def RowAt(w:World)(sz:Nat)(v:Value)(n:Nat)(cs:List Value):Prop:=
 ∃a cap,v= .slice a n cap/\n<=cap/\cap<=maxLen/\cs.length=n*sz/\(∀u∈cs,u.oneCell'=true)/\
  (0<n->∃b,a=some ⟨b,0,none⟩/\b<w.heap.size/\∀j u,cs[j]? =some u->w.cell? ⟨b,j,none⟩=some u)
theorem RowAt.below{w w':World}{sz n:Nat}{v:Value}{cs:List Value}(h:RowAt w sz v n cs)(hb:Below w.heap.size w w'):RowAt w' sz v n cs:=by
 obtain⟨a,cap,h1,h2,h3,h4,h5,h6⟩:=h
 refine⟨a,cap,h1,h2,h3,h4,h5,fun h0=> ?_⟩
 obtain⟨b,e,hl,hc⟩:=h6 h0
 exact⟨b,e,Nat.lt_of_lt_of_le hl hb.size,fun j u hj=>(hb.cell (p:=⟨b,j,none⟩) hl).trans (hc j u hj)⟩
theorem z2u{w:World}{base:Nat}{e:TypeId}{sz n:Nat}{v:Value}{cs:List Value}(h:w.ownsRow base e sz v n cs)(h1:∀u∈cs,u.oneCell'=true):RowAt w sz v n cs:=by
 have h0:=h.1
 rcases h.2 with⟨rfl,hn⟩|⟨g,cap,cur,rfl,hbg,hgg,k1,k2,k3,k4⟩
 ·exact⟨none,0,by rw[hn],by omega,by simp[maxLen],h0,h1,fun hp=>by omega⟩
 ·refine⟨some ⟨g,0,none⟩,cap,rfl,k1,k2,h0,h1,fun hp=>⟨g,rfl,(Array.getElem?_eq_some_iff.1 hgg).1,fun j u hj=> ?_⟩⟩
  have q:=h.cells (g:=g) rfl j u hj
  rw[Addr.add_lit,Nat.zero_add]at q
  exact q
end Go.Mq
namespace Go.Proofs.YtkoocfcnfolkhaaGreatDoor
open Go.RowKit Go.Mq
end Go.Proofs.YtkoocfcnfolkhaaGreatDoor
namespace Go.Mq
open Go.RowKit
theorem z4h:∀(ls:List Ln),(∀x∈ls,x.Ok)->∀k,k<ls.length->∀j u,(lineC (ls.getD k Ln0)).toList[j]? =some u->(ls.flatMap fun x=>(lineC x).toList)[k*18+j]? =some u
 |[],_,k,h,_,_,_=>absurd h (Nat.not_lt_zero _)
 |x::t,ok,0,_,j,u,hj=>by
  show((lineC x).toList++t.flatMap fun x=>(lineC x).toList)[0*18+j]? =_
  have hl:j<(lineC x).toList.length:=by
   rcases Nat.lt_or_ge j (lineC x).toList.length with h|h
   ·exact h
   ·have hj:(lineC x).toList[j]? =some u:=hj
    rw[List.getElem?_eq_none h]at hj;cases hj
  rw[List.getElem?_append_left kO,Nat.zero_mul,Nat.zero_add]
  exact hj
 |x::t,ok,k+1,h,j,u,hj=>by
  have hx:=(line_facts (ok x kS)).1
  have ih:=z4h t (fun y hy=>ok y (by simp[hy])) k (by simpa using h) j u hj
  show((lineC x).toList++t.flatMap fun x=>(lineC x).toList)[(k+1)*18+j]? =_
  rw[List.getElem?_append_right (by rw[Array.length_toList,hx];omega),Array.length_toList,hx,show(k+1)*18+j-18=k*18+j by omega]
  exact ih
def Wr0:Wr:=⟨0,0,0⟩
def wrA(x:Wr):Array Value:= #[.int .i64 x.ck,.int .i64 x.at',.int .u8 x.v]
theorem z5w:∀(l:List Wr),∀u∈wrC l,u.oneCell'=true
 |[],u,h=>by cases h
 |x::t,u,h=>by
  rcases List.mem_append.1 h with h|h
  ·simp only[List.mem_cons,List.not_mem_nil,or_false]at h
   rcases h with rfl|rfl|rfl<;>rfl
  ·exact z5w t u h
theorem z7E(l:List Ln):∀u∈l.flatMap (fun x=>(lineC x).toList),u.oneCell'=true:=fun u h=>by
 obtain⟨x,_,hx⟩:=List.mem_flatMap.1 h
 simp only[lineC,List.toList_toArray,List.mem_cons,List.mem_map]at hx
 rcases hx with rfl|rfl|⟨q,_,rfl⟩<;>rfl
end Go.Mq
namespace Go.Proofs.YtkoocfcnfolkhaaGreatDoor
open Go.RowKit Go.Mq
theorem Lns.row{w:World}{B:Nat}{v:Value}{l:List Ln}(h:Lns w B v l):RowAt w 18 v l.length (lnsC l):=z2u h (z7E l)
theorem Sms.row{w:World}{B:Nat}{v:Value}{l:List Int}(h:Sms w B v l):RowAt w 1 v l.length (l.map (Value.int .u8)):=z2u h (fun u hu=>by obtain⟨x,_,rfl⟩:=List.mem_map.1 hu;rfl)
theorem Wrs.row{w:World}{B:Nat}{v:Value}{l:List Wr}(h:Wrs w B v l):RowAt w 3 v l.length (wrC l):=z2u h (z5w l)
theorem px_at(px:List Int){j:Nat}(h:j<px.length):(px[j]?).map (Value.int .u8)=some (Value.int .u8 (px.getD j 0)):=by
 rw[List.getD_eq_getElem?_getD,List.getElem?_eq_getElem h]
 rfl
theorem Lns.lines{w:World}{B:Nat}{v:Value}{l:List Ln}(h:Lns w B v l)(hok:∀x∈l,x.Ok):LinesAt w v l:=by
 obtain⟨a,cap,rfl,h1,h2,h3,h4,h5⟩:=h.row
 refine⟨a,cap,rfl,h1,h2,hok,fun h0=> ?_⟩
 obtain⟨b,rfl,hl,hc⟩:=h5 h0
 refine⟨b,0,rfl,hl,fun i hi=> ?_⟩
 have hx:(l.getD i Ln0).Ok:=lines_ok hok hi
 have hat:=fun j u hj=>hc (i*18+j) u (z4h l hok i hi j u hj)
 obtain⟨f1,f2,f3,f4,f5,f6,f7⟩:=line_facts hx
 refine⟨?_,?_,fun j hj=> ?_⟩
 ·have:=hat 0 (.int .i64 (l.getD i Ln0).fr) (by rw[<-Array.getElem?_toList]at f3;exact f3)
  rw[Nat.zero_add]
  exact this
 ·have:=hat 1 (.int .i64 (l.getD i Ln0).ln) (by rw[<-Array.getElem?_toList]at f4;exact f4)
  rw[Nat.zero_add]
  exact this
 ·have hp:j<(l.getD i Ln0).px.length:=by rw[hx.2.2.1];exact hj
  have:=hat (2+j) (.int .u8 ((l.getD i Ln0).px.getD j 0)) (by
   unfold lineC
   rw[List.toList_toArray,Nat.add_comm 2 j,List.getElem?_cons_succ,List.getElem?_cons_succ,List.getElem?_map]
   exact px_at _ hp)
  rw[Nat.zero_add]
  exact this
def lnsN:Nat->List (Int×Int)
 |0=>[]
 |j+1=>lnsN j++if j%10<8 then [(((j/10:Nat):Int),((j%10:Nat):Int))]else []
theorem z7D(j:Nat):(lnsN j).length=8*(j/10)+min (j%10) 8:=by
 induction j with
 |zero=>rfl
 |succ j ih=>
  rw[lnsN,List.length_append,ih]
  by_cases h:j%10<8
  ·rw[if_pos h]
   show _+1=_
   omega
  ·rw[if_neg h]
   show _+0=_
   omega
def pickS(f:Int)(m:Nat)(p:Int×Int):Nat:=if p.1=f/\p.2=m then m+1 else m
theorem z2e(f:Int):∀(xs:List Ln) (acc:List (List Int)),(pick f acc xs).length=(xs.map (fun l=>(l.fr,l.ln))).foldl (pickS f) acc.length
 |[],acc=>rfl
 |x::t,acc=>by
  rw[List.map_cons,List.foldl_cons]
  unfold pickS
  by_cases h:x.fr=f/\x.ln=acc.length
  ·rw[pick,if_pos h,if_pos h,z2e f t,List.length_append]
   rfl
  ·rw[pick,if_neg h,if_neg h,z2e f t]
   rfl
theorem z8m(f j:Nat):(lnsN j).foldl (pickS f) 0=if f<j/10 then 8 else if f=j/10 then min (j%10) 8 else 0:=by
 induction j with
 |zero=>
  show 0=_
  rw[if_neg kO]
  split<;>rfl
 |succ j ih=>
  rw[lnsN,List.foldl_append,ih]
  by_cases h:j%10<8
  ·rw[if_pos h,List.foldl_cons,List.foldl_nil]
   unfold pickS
   by_cases h1:f<j/10
   ·rw[if_pos h1,if_neg kO,if_pos kO]
   ·rw[if_neg h1]
    by_cases h2:f=j/10
    ·rw[if_pos h2,if_pos (by constructor<;>omega),if_neg kO,if_pos kO]
     omega
    ·rw[if_neg h2,if_neg (fun k=>by have:=k.1;omega),if_neg kO]
     split
     ·omega
     ·rfl
  ·rw[if_neg h,List.foldl_nil]
   by_cases h1:f<j/10
   ·rw[if_pos h1,if_pos kO]
   ·rw[if_neg h1]
    by_cases h2:f=j/10
    ·rw[if_pos h2]
     by_cases h3:j%10=9
     ·rw[if_pos kO]
      omega
     ·rw[if_neg kO,if_pos kO]
      omega
    ·rw[if_neg h2,if_neg kO]
     split
     ·omega
     ·rfl
theorem drN_N{b:Bm}(h1:b.ln=0)(h2:b.pt=0)(h3:b.fr=0)(j:Nat):drN b (64*j)=lnsN j:=by
 have hb:b.In:=by unfold Bm.In;omega
 have n0:nextB b=0:=by unfold nextB;rw[h2];rfl
 induction j with
 |zero=>rfl
 |succ j ih=>
  have k:=z6N hb j (64*(j+1)) (64*j) (by rw[n0];omega) kO
  rw[Nat.min_eq_left kO]at k
  have key:drB (runBm b ((64*j:Nat):Int))=if j%10<8 then [(((j/10:Nat):Int),((j%10:Nat):Int))]else []:=by
   have e1:(runBm b ((64*j:Nat):Int)).ln=((j%10:Nat):Int):=by
    show(b.ln*64+b.pt+((64*j:Nat):Int))%640/64=_
    rw[h1,h2]
    omega
   have e2:(runBm b ((64*j:Nat):Int)).pt=0:=by
    show(b.ln*64+b.pt+((64*j:Nat):Int))%640%64=_
    rw[h1,h2]
    omega
   have e3:(runBm b ((64*j:Nat):Int)).fr=((j/10:Nat):Int):=by
    show b.fr+(b.ln*64+b.pt+((64*j:Nat):Int))/640=_
    rw[h1,h2,h3]
    omega
   unfold drB
   rw[e1,e2,e3]
   by_cases h:j%10<8
   ·rw[if_pos h,if_pos ⟨rfl,by omega⟩]
   ·rw[if_neg h,if_neg (fun k=>h (by have:=k.2;omega))]
  rw[show 64*(j+1)=64*j+64 by omega,k,ih,lnsN,key]
structure Shows(c:Cn)(f:Nat):Prop where
 fr:c.x.m.bm.fr=f
 len:c.ls.length=8*f
 smp:c.ss.length=40*f
 pk:∀k,k<f->(pick k [] c.ls).length=8
 no:(pick f [] c.ls).length=0
theorem z5L{m:Mach}{ins:List Inp}(hi:m.In)(hr:m.Right)(hc:chkFrom m.ck ins=0)(hd:∀i∈ins,U8 i.dn)(h:m.sd.wt=0/\m.bm.ln=0/\m.bm.pt=0/\m.bm.fr=0/\m.ck=0/\m.mr=0/\m.ar=0)(f:Nat)(hf:f<=20):Shows (lkN (cn0 m ins) (640*f)) f:=by
 obtain⟨h1,h2,h3,h4,h5,-,-⟩:=h
 have A0:=z8f hi hr hc hd
 have B0:=z4S (ins:=ins) hr.bm.1
 have BB:=B0.run A0 (640*f) hr.bm.1 kO kO hr.bm.2.1 kO kO
 rw[Nat.zero_add]at BB
 have S0:Sn m 0 (cnI m ins):=⟨rfl,rfl⟩
 have SS:=S0.run A0 (640*f) kO kO
 have DD:=z9u A0 B0 rfl (640*f) hr.bm.1 kO kO hr.bm.2.1 kO kO
 rw[show 640*f=64*(10*f) by omega,drN_N h2 h3 h4,show 64*(10*f)=640*f by omega]at DD
 show Shows (lkN (cnI m ins) (640*f)) f
 generalize lkN (cnI m ins) (640*f)=c at*
 have hl:=congrArg List.length DD
 rw[List.length_map,z7D]at hl
 have hs:=z2I m.sd ⟨hi.sd,hr.wt⟩ (640*f)
 refine⟨?_,by omega,?_,fun k hk=> ?_,?_⟩
 ·rw[BB.fr]
  show m.bm.fr+(m.bm.ln*64+m.bm.pt+((640*f:Nat):Int))/640=f
  rw[h2,h3,h4]
  omega
 ·rw[SS.ss]
  rw[h1]at hs
  split at hs<;>omega
 ·rw[z2e,DD]
  show(lnsN (10*f)).foldl (pickS k) 0=8
  rw[z8m,if_pos kO]
 ·rw[z2e,DD]
  show(lnsN (10*f)).foldl (pickS f) 0=0
  rw[z8m,if_neg kO,if_pos kO]
  omega
theorem RowAt.lines{w:World}{v:Value}{xs:List Ln}(h:RowAt w 18 v xs.length (lnsC xs))(ok:∀x∈xs,x.Ok):LinesAt w v xs:=by
 obtain⟨a,cap,rfl,h1,h2,-,h4,h5⟩:=h
 refine⟨a,cap,rfl,h1,h2,ok,fun h0=> ?_⟩
 obtain⟨b,rfl,hl,hc⟩:=h5 h0
 refine⟨b,0,rfl,hl,fun i hi=> ?_⟩
 have hx:=lines_ok ok hi
 have k:∀j u,(lineC (xs.getD i Ln0)).toList[j]? =some u->w.cell? ⟨b,0+i*18+j,none⟩=some u:=fun j u hj=>by
  rw[Nat.zero_add]
  exact hc _ _ (z4h xs ok i hi j u hj)
 refine⟨k 0 _ rfl,k 1 _ rfl,fun j hj=>k (2+j) _ ?_⟩
 have e:(lineC (xs.getD i Ln0)).toList=Value.int .i64 (xs.getD i Ln0).fr:: .int .i64 (xs.getD i Ln0).ln::(xs.getD i Ln0).px.map (Value.int .u8):=rfl
 have hp:j<(xs.getD i Ln0).px.length:=by have:=hx.2.2.1;omega
 rw[e,show 2+j=j+1+1 by omega,List.getElem?_cons_succ,List.getElem?_cons_succ,List.getElem?_map]
 generalize (xs.getD i Ln0).px=q at hp⊢
 rw[List.getD_eq_getElem?_getD,List.getElem?_eq_getElem hp]
 rfl
end Go.Proofs.YtkoocfcnfolkhaaGreatDoor
namespace Go.Mq
open Go.RowKit
theorem cmark{F R:World->Prop}{W:World}(h:R W)(k:∀W',R W'->F W'):F W:=k W h
theorem z2h{P:Program}{w w':World}{n:String}{cs:Array Value}(h:w.var? P n=some cs)(hb:Below w.heap.size w w'):w'.var? P n=some cs:=by
 unfold World.var? at h⊢
 cases hg:P.globalNamed n with
 |none=>simp[hg]at h
 |some g=>
  simp only[hg,Option.bind_some]at h⊢
  have hlt:g<w.heap.size:=by
   rcases Nat.lt_or_ge g w.heap.size with h'|h'
   ·exact h'
   ·simp[Array.getElem?_eq_none h']at h
  rw[hb.block g hlt]
  exact h
structure Lw(P:Program)(gm:Nat)(w:World):Prop where
 pow:Lib.TabIs P w "internal/strconv.uint64pow10" .u64 Lib.pow10Tab
 syn:∃tp p,w.var? P "strconv.ErrSyntax" =some #[.iface tp p]
 rng:∃tp p,w.var? P "strconv.ErrRange" =some #[.iface tp p]
 mx:∃m,w.cell? ⟨gm,0,none⟩=some (.int .i64 m)
theorem Lw.below{P:Program}{gm:Nat}{w w':World}(h:Lw P gm w)(hb:Below w.heap.size w w'):Lw P gm w':=by
 obtain⟨h1,⟨t2,p2,h2⟩,⟨t3,p3,h3⟩,⟨m,h4⟩⟩:=h
 exact⟨z2h h1 hb,⟨t2,p2,z2h h2 hb⟩,⟨t3,p3,z2h h3 hb⟩,m,(hb.cell (World.block_lt_of_cell? _ _ h4)).trans h4⟩
end Go.Mq
