/- The law TapeCounts answers true for every input: each frame that is played is there whole, and no other one. Conditions: the programs, and what is pressed, lie in memory; the library's variables hold what they were laid with. -/
import Derived.Test.YtkoocfcnfolkhaaGreatDoorSq
import Derived.Test.YtkoocfcnfolkhaaGreatDoorSh
import Derived.Test.YtkoocfcnfolkhaaGreatDoorP40
import Derived.Test.YtkoocfcnfolkhaaGreatDoorTapeFr
import Derived.Test.YtkoocfcnfolkhaaGreatDoorP47
import Derived.Test.YtkoocfcnfolkhaaGreatDoorBusCopy
import Derived.Test.YtkoocfcnfolkhaaGreatDoorBase
import Derived.Test.YtkoocfcnfolkhaaGreatDoorP08
set_option linter.unusedVariables false
set_option linter.unusedSimpArgs false
set_option maxHeartbeats 4000000
set_option maxRecDepth 100000
namespace Go.Proofs.YtkoocfcnfolkhaaGreatDoor.tapeCounts
open Go.RowKit Go.Mq
theorem z2a{w:World}{v:Value}{xs:List Int}(h:SliceAt w .u8 v xs):Bytes8 xs:=by
 obtain⟨_,_,_,_,_,h,_⟩:=h
 intro x hx
 have:=h x hx
 simp only[Lit.wf,Bool.and_eq_true,decide_eq_true_eq]at this
 exact⟨this.1,this.2⟩
theorem z5h{xs ys:List Int}(bx:Bytes8 xs)(bY:Bytes8 ys):(newMach xs ys).In:=inMc (z6c bx bY) (z1t (by unfold U16;omega))
theorem z4e{xs ys:List Int}(l1:xs.length<=1024)(l2:ys.length<=1024):(newMach xs ys).Fit:=by
 have h:=z4H l1 l2
 exact⟨h.l0,h.l1,h.l2,h.l3,h.l4⟩
theorem bad(v1:Value)(xs:List Int)(v2:Value)(ys:List Int)(v:Value)(ins:List Inp)(f:Int)(w:World)(h1:SliceAt w .u8 v1 xs)(h2:SliceAt w .u8 v2 ys)(hI:InpsAt w v ins)(hf:I64 f)(hL:Lk w)(h:errP xs ys ins f≠0):Calls Tryz.prog 3 #[v1,v2,v,.int .i64 f] w fun e w'=>e= .returned (.bool true)/\Below w.heap.size w w':=by
 have PB:=zh (fun W (k:Below w.heap.size w W)=>z7p v1 v2 v xs ys ins f W (z2a h1) (z2a h2) (h1.below k) (h2.below k) (hI.below k) h)
 obtain⟨c,ec⟩:∃c,c=errP xs ys ins f:=⟨_,rfl⟩
 rw[<-ec]at PB h
 have hcb:(c !=0)=true:=by rw[bne_iff_ne];exact h
 have ONZ:=z0x
 have HL:=zh hL
 clear h1 h2 hI hL h ec
 go_enter Tryz.func3,Tryz.ntmps3
 go_wp2_with fail
 refine(PB.out _ kL).mono ?_
 rintro e w2 ⟨rfl,hb2⟩
 have B2:Below w.heap.size w w2:=kL
 have s2:=B2.size
 clear hb2
 go_wp2_with (first|((with_reducible show wpList _ _ _ _ _ _);first|(refine sW 42 9 23 rfl rfl (w2.heap.size) Tryz.zeroCells42 rfl rfl Tryz.zeroCells42 kB ?_;intro w3 hp_w3 K_w3)|(refine sW 46 10 24 rfl rfl (w2.heap.size+1) #[.slice none 0 0,.slice none 0 0,.slice none 0 0] rfl rfl #[.slice none 0 0,.slice none 0 0,.slice none 0 0] kB ?_;intro w4 hp_w4 K_w4)))
 have B4:Below w.heap.size w w4:=kL
 clear hp_w3 hp_w4 K_w3 K_w4 B2
 refine(z2j _ (HL.out.below B4)).mono ?_
 rintro e w5 ⟨rfl,hb5⟩
 have B5:=below_then B4 hb5
 clear hb5 B4
 go_wp2_with fail
 refine(z2j _ (HL.out.below B5)).mono ?_
 rintro e w6 ⟨rfl,hb6⟩
 go_wp2
 go_ret
 exact⟨rfl,kL⟩
theorem k_lt{k F:Nat}{K f:Int}(h:k<F)(hK:K=k)(hf:f=F):K<f/\0<=K:=by omega
theorem k_ge{k F:Nat}{K f:Int}(h:¬k<F)(hK:K=k)(hf:f=F):¬K<f:=by omega
theorem k_w{k F:Nat}{K:Int}(h:k<F)(hF:F<=20)(hK:K=k):wrap64 (K+1)=K+1/\K+1=((k+1:Nat):Int):=⟨z0n _ kO kO,by omega⟩
theorem k_ms{k F:Nat}{K:Int}(h:k<F)(hK:K=k):F-(intOf (.int .i64 (K+1))).toNat<F-(intOf (.int .i64 K)).toNat:=by
 show F-(K+1).toNat<F-K.toNat
 omega
theorem good(v1:Value)(xs:List Int)(v2:Value)(ys:List Int)(v:Value)(ins:List Inp)(f:Int)(w:World)(h1:SliceAt w .u8 v1 xs)(h2:SliceAt w .u8 v2 ys)(hI:InpsAt w v ins)(hf:I64 f)(hL:Lk w)(F:Nat)(hF:f=F)(h:errP xs ys ins f=0):Calls Tryz.prog 3 #[v1,v2,v,.int .i64 f] w fun e w'=>e= .returned (.bool true)/\Below w.heap.size w w':=by
 have bx:=z2a h1
 have bY:=z2a h2
 obtain⟨hF1,hc,-⟩:=z5W v1 v2 v xs ys ins f w bx bY h1 h2 hI F hF h
 have RN:=zh (fun W (k:Below w.heap.size w W)=>(z5W v1 v2 v xs ys ins f W bx bY (h1.below k) (h2.below k) (hI.below k) F hF h).2.2)
 have hl:xs.length<=1024/\ys.length<=1024:=by
  unfold errP at h
  split at h
  ·cases h
  ·omega
 have hd:∀i∈ins,U8 i.dn:=by
  obtain⟨_,_,_,_,_,h,_⟩:=hI
  exact fun i hi=>(h i hi).2.2
 have hc0:chkFrom 0 ins=0:=by
  unfold chkI at hc
  split at hc
  ·cases hc
  ·exact hc
 have SH:=z5L (z5h bx bY) (z3d (z4e hl.1 hl.2) (z1a xs ys)) hc0 hd (z1a xs ys) F hF1
 obtain⟨C,hC⟩:∃C,C=lkN (cn0 (newMach xs ys) ins) (640*F):=⟨_,rfl⟩
 rw[<-hC]at RN SH
 have HSH:=zh SH
 have LL:=SH.len
 have LS:=SH.smp
 have LF:=SH.fr
 have HF:=zh hF
 have HF1:=zh hF1
 obtain⟨NL,hNL⟩:∃n:Int,n=C.ls.length:=⟨_,rfl⟩
 obtain⟨NS,hNS⟩:∃n:Int,n=C.ss.length:=⟨_,rfl⟩
 have e8:wrap64 (8*f)=NL:=by rw[z0n _ kO kO];omega
 have e40:wrap64 (40*f)=NS:=by rw[z0n _ kO kO];omega
 have f64:C.x.m.bm.fr=f:=by omega
 have HE8:Hid (8*f=C.ls.length/\40*f=C.ss.length/\0<=f/\f<=20):=zh kO
 have HL:=zh hL
 have H5:(5:Int)≠0:=by decide
 clear h1 h2 hI hL h hC hd hc hc0 hl bx bY SH hf hF hF1 LL LS LF e8 e40 hNL hNS
 go_enter Tryz.func3,Tryz.ntmps3
 go_wp2_with fail
 refine(RN.out _ kL).mono ?_
 rintro e w2 ⟨U,lv,sv,wv,rfl,T⟩
 have B2:Below w.heap.size w w2:=T.told.below
 have s2:=B2.size
 have ON1:=z5N T
 have OS1:=z3y T
 have TT:=zh T
 clear T RN
 go_wp2_with (first|((with_reducible show wpList _ _ _ _ _ _);first|(refine sW 42 9 23 rfl rfl (w2.heap.size) (machC U C.x.m) rfl rfl Tryz.zeroCells42 kB ?_;intro w3 hp_w3 K_w3)|(refine sW 46 10 24 rfl rfl (w2.heap.size+1) (#[lv,sv,wv]) rfl rfl #[.slice none 0 0,.slice none 0 0,.slice none 0 0] kB ?_;intro w4 hp_w4 K_w4)))
 have b24:Below w2.heap.size w2 w4:=kL
 have B4:Below w.heap.size w w4:=kL
 have KM:=zh (K_w3.out.put hp_w4 (Nat.ne_of_lt (Nat.lt_succ_self _)))
 have KS:=zh K_w4.out
 have LN:=zh ((RowAt.lines (TT.out.lns.row) TT.out.ok.1).below b24)
 have SL:=zh TT.out.sms.row
 clear hp_w3 hp_w4 K_w3 K_w4 B2 TT b24 s2
 refine(z2j _ (HL.out.below B4)).mono ?_
 rintro e w5 ⟨rfl,hb5⟩
 have B5:=below_then B4 hb5
 have KM5:=zh (KM.out.below hb5)
 have KS5:=zh (KS.out.below hb5)
 have LN5:=zh (LN.out.below hb5)
 clear hb5 B4 KM KS LN HL
 have FR:=zh (fun(K:Int) (W:World) (hk:I64 K) (b:Below w5.heap.size w5 W)=>z6t lv sv wv C.ls K W (LN5.out.below b) hk (by have:=HE8.out;omega))
 go_wp2_with (first|((with_reducible show wpList _ _ _ _ _ _);first|(refine sW 42 9 23 rfl rfl (w2.heap.size) (machC U C.x.m) rfl rfl Tryz.zeroCells42 kB ?_;intro w3 hp_w3 K_w3)|(refine sW 46 10 24 rfl rfl (w2.heap.size+1) (#[lv,sv,wv]) rfl rfl #[.slice none 0 0,.slice none 0 0,.slice none 0 0] kB ?_;intro w4 hp_w4 K_w4))|go_in)
 go_loopw [34] (fun i wr=>∃(k:Nat) (K:Int),i= .int .i64 K/\Hid (K=k/\k<=F)/\Below w5.heap.size w5 wr) (fun i _=>F-(intOf i).toNat)
 case atStart=>exact⟨0,0,rfl,zh ⟨rfl,Nat.zero_le _⟩,Below.refl _ _⟩
 case round=>
  obtain⟨k,K,rfl,hK,hb⟩:=hrel
  have KSr:=KS5.out.below hb
  have d0:wr.cell? ⟨w2.heap.size+1,0,none⟩=some lv:=KSr.cell 0
  have d1:wr.cell? ⟨w2.heap.size+1,1,none⟩=some sv:=KSr.cell 1
  have d2:wr.cell? ⟨w2.heap.size+1,2,none⟩=some wv:=KSr.cell 2
  clear KSr
  by_cases hkn:k<F
  ·obtain⟨LT,K0⟩:=k_lt hkn hK.out.1 HF.out
   obtain⟨WK,hK1⟩:=k_w hkn HF1.out hK.out.1
   have MS:=zh (k_ms hkn hK.out.1)
   have P8:=zh (HSH.out.pk k hkn)
   have FK:=zh (FR.out K wr (by have:=HE8.out;unfold I64;omega) hb)
   have HKN:=zh (And.intro hkn hK1)
   have P8':Hid ((pick K [] C.ls).length=8):=zh (by rw[hK.out.1];exact P8.out)
   clear P8 hkn hK1
   go_wp2_with (first|((with_reducible show wpList _ _ _ _ _ _);first|(refine sW 42 9 23 rfl rfl (w2.heap.size) (machC U C.x.m) rfl rfl Tryz.zeroCells42 kB ?_;intro w3 hp_w3 K_w3)|(refine sW 46 10 24 rfl rfl (w2.heap.size+1) (#[lv,sv,wv]) rfl rfl #[.slice none 0 0,.slice none 0 0,.slice none 0 0] kB ?_;intro w4 hp_w4 K_w4)))
   refine FK.out.mono ?_
   rintro e w6 ⟨he,hb6⟩
   unfold FrameEnd at he
   rw[if_pos P8'.out]at he
   obtain⟨p,rfl,a,cp,rfl,-⟩:=he
   rw[P8'.out]
   have B6:=zh (below_then hb hb6)
   clear FK hb hb6 d0 d1 d2 P8'
   go_wp2_with (first|((with_reducible show wpList _ _ _ _ _ _);first|(refine sW 42 9 23 rfl rfl (w2.heap.size) (machC U C.x.m) rfl rfl Tryz.zeroCells42 kB ?_;intro w3 hp_w3 K_w3)|(refine sW 46 10 24 rfl rfl (w2.heap.size+1) (#[lv,sv,wv]) rfl rfl #[.slice none 0 0,.slice none 0 0,.slice none 0 0] kB ?_;intro w4 hp_w4 K_w4))|go_in)
   go_roundw
   case rel=>exact⟨k+1,K+1,by rw[WK],zh ⟨HKN.out.2,HKN.out.1⟩,B6.out⟩
   case measure=>rw[WK];exact MS.out
  ·have LT:=k_ge hkn hK.out.1 HF.out
   have EK:Hid (K=f):=zh (by rw[hK.out.1,HF.out,Nat.le_antisymm hK.out.2 (Nat.le_of_not_lt hkn)])
   have FK:=zh (FR.out f wr (by have:=HE8.out;unfold I64;omega) hb)
   have P0:Hid ((pick f [] C.ls).length≠8):=zh (by rw[HF.out,HSH.out.no];decide)
   have KMr:=zh (KM5.out.below hb)
   have KSr:=zh (KS5.out.below hb)
   have Br:=below_then B5 hb
   clear hkn hK
   go_wp2_with (first|((with_reducible show wpList _ _ _ _ _ _);first|(refine sW 42 9 23 rfl rfl (w2.heap.size) (machC U C.x.m) rfl rfl Tryz.zeroCells42 kB ?_;intro w3 hp_w3 K_w3)|(refine sW 46 10 24 rfl rfl (w2.heap.size+1) (#[lv,sv,wv]) rfl rfl #[.slice none 0 0,.slice none 0 0,.slice none 0 0] kB ?_;intro w4 hp_w4 K_w4)))
   refine FK.out.mono ?_
   rintro e w6 ⟨he,hb6⟩
   unfold FrameEnd at he
   rw[if_neg P0.out]at he
   subst he
   have KM6:=KMr.out.below hb6
   have KS6:=KSr.out.below hb6
   have B6:=below_then Br hb6
   obtain⟨al,cl,rfl,-⟩:=id LN5.out
   obtain⟨a1,c1,rfl,-⟩:=id SL.out
   have m64:w6.cell? ⟨w2.heap.size,64,none⟩=some (.int .i64 C.x.m.bm.fr):=(KM6.cell 64).trans (mx64 ..)
   rw[f64]at m64
   have y0:w6.cell? ⟨w2.heap.size+1,0,none⟩=some (.slice al C.ls.length cl):=KS6.cell 0
   have y1:w6.cell? ⟨w2.heap.size+1,1,none⟩=some (.slice a1 C.ss.length c1):=KS6.cell 1
   have ff:(f==f)=true:=beq_self_eq_true f
   obtain⟨N1,hN1⟩:∃n:Int,n=C.ls.length:=⟨_,rfl⟩
   obtain⟨N2,hN2⟩:∃n:Int,n=C.ss.length:=⟨_,rfl⟩
   have e1:Hid (((C.ls.length:Int)==8*f)=true):=zh (by rw[beq_iff_eq];exact HE8.out.1.symm)
   have e2:Hid (((C.ss.length:Int)==40*f)=true):=zh (by rw[beq_iff_eq];exact HE8.out.2.1.symm)
   have fb:0<=f/\f<=20:=HE8.out.2.2
   have x1:=e1.out
   have x2:=e2.out
   clear KM6 KS6 KMr KSr hb6 hb Br FK hN1 hN2 d0 d1 d2
   go_wp2_with (first|((with_reducible show wpList _ _ _ _ _ _);first|(refine sW 42 9 23 rfl rfl (w2.heap.size) (machC U C.x.m) rfl rfl Tryz.zeroCells42 kB ?_;intro w3 hp_w3 K_w3)|(refine sW 46 10 24 rfl rfl (w2.heap.size+1) (#[lv,sv,wv]) rfl rfl #[.slice none 0 0,.slice none 0 0,.slice none 0 0] kB ?_;intro w4 hp_w4 K_w4))|go_in)
   go_ret
   exact⟨rfl,B6⟩
theorem walk(v1:Value)(xs:List Int)(v2:Value)(ys:List Int)(v:Value)(ins:List Inp)(f:Int)(w:World)(h1:SliceAt w .u8 v1 xs)(h2:SliceAt w .u8 v2 ys)(hI:InpsAt w v ins)(hf:I64 f)(hL:Lk w):Calls Tryz.prog 3 #[v1,v2,v,.int .i64 f] w fun e w'=>e= .returned (.bool true)/\Below w.heap.size w w':=by
 by_cases h:errP xs ys ins f=0
 ·have hf0:0<=f:=by
   unfold errP at h
   split at h
   ·cases h
   ·split at h
    ·cases h
    ·omega
  obtain⟨F,hF⟩:=Int.eq_ofNat_of_zero_le hf0
  exact good v1 xs v2 ys v ins f w h1 h2 hI hf hL F hF h
 ·exact bad v1 xs v2 ys v ins f w h1 h2 hI hf hL h
end Go.Proofs.YtkoocfcnfolkhaaGreatDoor.tapeCounts
