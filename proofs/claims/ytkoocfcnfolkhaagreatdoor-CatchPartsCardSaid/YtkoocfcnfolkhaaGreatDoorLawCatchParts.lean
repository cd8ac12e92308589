/- The law CatchParts answers true for every input. Conditions: the machine's memories, and what is pressed, lie in memory; the library's variables hold what they were laid with. -/
import Derived.Test.YtkoocfcnfolkhaaGreatDoorSq
import Derived.Test.YtkoocfcnfolkhaaGreatDoorSh
import Derived.Test.YtkoocfcnfolkhaaGreatDoorP30
import Derived.Test.YtkoocfcnfolkhaaGreatDoorP43
import Derived.Test.YtkoocfcnfolkhaaGreatDoorP52
import Derived.Test.YtkoocfcnfolkhaaGreatDoorP41
import Derived.Test.YtkoocfcnfolkhaaGreatDoorP45
set_option linter.unusedVariables false
set_option linter.unusedSimpArgs false
set_option maxHeartbeats 8000000
set_option maxRecDepth 100000
namespace Go.Proofs.YtkoocfcnfolkhaaGreatDoor.catchParts
open Go.RowKit Go.Mq
def NoAt(m:Mach)(ins:List Inp)(a b:Int)(k:Nat):Prop:=match k with
 |0=>errL m ins a≠0
 |1=>errL m ins a=0/\b<0
 |2=>errL m ins a=0/\¬b<0/\20000-a<b
 |3=>errL m ins a=0/\¬b<0/\¬20000-a<b/\errL m ins (a+b)≠0
 |_=>errL m ins a=0/\¬b<0/\¬20000-a<b/\errL m ins (a+b)=0/\19000<m.bm.fr
theorem no(V:Nat->Value)(m:Mach)(v:Value)(ins:List Inp)(a b:Int)(w:World)(hm:MV w V m)(hi:m.In)(hI:InpsAt w v ins)(ha:I64 a)(hb:I64 b)(hL:Lk w)(k:Nat)(hk:k<5)(h:NoAt m ins a b k):Calls Tryz.prog 5 #[.agg (machC V m),v,.int .i64 a,.int .i64 b] w fun e w'=>e= .returned (.bool true)/\Below w.heap.size w w':=by
 have BR:=zh (fun n W (k:Below w.heap.size w W)=>z2l V m v ins n W (hm.below k) (hI.below k))
 have ON0:=zh (z0t m (fun i hi=>hm.one i hi))
 have LG:=zh (fun n W=>z2z V m n W ON0.out)
 have HL:=zh hL
 have HA:=zh (fun(h:errL m ins a=0)=>z3R h)
 clear hm hi hI hL
 have B1:=zh (BR.out a)
 have B2:=zh (BR.out (a+b))
 have B3:=zh (LG.out (a+b))
 obtain⟨c,ec⟩:∃c,c=errL m ins a:=⟨_,rfl⟩
 obtain⟨d,ed⟩:∃d,d=errL m ins (a+b):=⟨_,rfl⟩
 obtain⟨l,el⟩:∃l,l=decide (19000<m.bm.fr):=⟨_,rfl⟩
 rw[<-ec]at B1
 rw[<-ed]at B2
 rw[<-el]at B3
 clear BR LG
 rcases(by omega:k=0\/k=1\/k=2\/k=3\/k=4)with rfl|rfl|rfl|rfl|rfl
 case' inl=>
  have hcb:(c !=0)=true:=by rw[bne_iff_ne,ec];exact h
  clear ec ed el h HA
 case' inr.inl=>
  obtain⟨h1,h2⟩:=h
  rw[h1]at ec
  subst ec
  clear ed el h1 HA
 case' inr.inr.inl=>
  obtain⟨h1,h2,h3⟩:=h
  have hA:=HA.out h1
  have WS:wrap64 (20000-a)=20000-a:=z0l _ kO kO
  rw[h1]at ec
  subst ec
  clear ed el h1 HA hA
 case' inr.inr.inr.inl|inr.inr.inr.inr=>
  obtain⟨h1,h2,h3,h4⟩:=h
  have hA:=HA.out h1
  have WS:wrap64 (20000-a)=20000-a:=z0l _ kO kO
  have WAB:wrap64 (a+b)=a+b:=z0l _ kO kO
  have h2d:decide (b<0)=false:=decide_eq_false h2
  have h3d:decide (20000-a<b)=false:=decide_eq_false h3
  replace h3:b<=20000-a:=by omega
  rw[h1]at ec
  subst ec
  clear h1 HA hA
 case' inr.inr.inr.inl=>
  have hcb:(d !=0)=true:=by rw[bne_iff_ne,ed];exact h4
  clear ed el h4
 case' inr.inr.inr.inr=>
  rw[h4.1]at ed
  rw[decide_eq_true h4.2]at el
  subst ed el
  clear h4
 all_goals
  go_enter Tryz.func5,Tryz.ntmps5
  go_wp2_with fail
  refine(z1n _ (HL.out.below kL)).mono ?_
  rintro e w1 ⟨rfl,hb1⟩
  have KM:=zh (show Blk w1 w.heap.size (machC V m) 42 from kB)
  have Q1:Below w.heap.size w w1:=kL
  clear hb1
  go_wp2_with (first|((with_reducible show wpList _ _ _ _ _ _);refine lG 42 4 (by rfl) rfl (w.heap.size) (0) 75 rfl 42 (machC V m) (machC V m) kB Tryz.underlying42 ?_))
  refine(B1.out _ Q1).mono ?_
  rintro e w2 ⟨rfl,hb2⟩
  have Q2:=below_then Q1 hb2
  replace KM:=zh (KM.out.below hb2)
  clear hb2 Q1
  go_wp2_with (first|((with_reducible show wpList _ _ _ _ _ _);refine lG 42 4 (by rfl) rfl (w.heap.size) (0) 75 rfl 42 (machC V m) (machC V m) kB Tryz.underlying42 ?_))
 all_goals try
  refine(B2.out _ Q2).mono ?_
  rintro e w4 ⟨rfl,hb4⟩
  replace Q2:=below_then Q2 hb4
  replace KM:=zh (KM.out.below hb4)
  clear hb4
  go_wp2_with (first|((with_reducible show wpList _ _ _ _ _ _);refine lG 42 4 (by rfl) rfl (w.heap.size) (0) 75 rfl 42 (machC V m) (machC V m) kB Tryz.underlying42 ?_))
 all_goals try
  refine(B3.out _).mono ?_
  rintro e w5 ⟨rfl,hb5⟩
  replace Q2:=below_then Q2 hb5
  clear hb5
  go_wp2_with (first|((with_reducible show wpList _ _ _ _ _ _);refine lG 42 4 (by rfl) rfl (w.heap.size) (0) 75 rfl 42 (machC V m) (machC V m) kB Tryz.underlying42 ?_))
 all_goals
  refine(z1n _ (HL.out.below Q2)).mono ?_
  rintro e w3 ⟨rfl,hb3⟩
  go_wp2_with (first|((with_reducible show wpList _ _ _ _ _ _);refine lG 42 4 (by rfl) rfl (w.heap.size) (0) 75 rfl 42 (machC V m) (machC V m) kB Tryz.underlying42 ?_)|go_in)
  go_ret
  exact⟨rfl,kL⟩
theorem infoI:(Tryz.prog.info? 63).map (fun i=>(i.zero,i.size,i.bytes))=some (some (.agg #[.int .i64 0,.int .i64 0,.int .u8 0]),3,24):=by kernel_rfl
def inpC(l:List Inp):List Value:=l.flatMap fun x=>[.int .i64 x.ck,.int .i64 x.pd,.int .u8 x.dn]
theorem z4B(l:List Inp)(x:Inp):inpC (l++[x])=inpC l++[.int .i64 x.ck,.int .i64 x.pd,.int .u8 x.dn]:=by simp[inpC]
theorem z7L:∀(l:List Inp) (k:Nat),k<l.length->(inpC l)[k*3]? =some (.int .i64 (l.getD k Inp0).ck)/\(inpC l)[k*3+1]? =some (.int .i64 (l.getD k Inp0).pd)/\(inpC l)[k*3+2]? =some (.int .u8 (l.getD k Inp0).dn)
 |[],k,h=>absurd h (Nat.not_lt_zero _)
 |x::t,0,h=>⟨rfl,rfl,rfl⟩
 |x::t,k+1,h=>by
  obtain⟨a,b,c⟩:=z7L t k (by simpa using h)
  have e:∀j,([.int .i64 x.ck,.int .i64 x.pd,.int .u8 x.dn]++inpC t:List Value)[(k+1)*3+j]? =(inpC t)[k*3+j]? :=fun j=>by
   rw[List.getElem?_append_right (by show 3<=_;omega)]
   congr 1
   show(k+1)*3+j-3=_
   omega
  exact⟨(e 0).trans a,(e 1).trans b,(e 2).trans c⟩
theorem z4r{w:World}{B:Nat}{v:Value}{l:List Inp}(h:w.ownsRow B 63 3 v l.length (inpC l))(hok:∀x∈l,x.Ok):InpsAt w v l:=by
 rcases h.2 with⟨rfl,hn⟩|⟨g,cap,cur,rfl,hbg,hgg,k1,k2,k3,k4⟩
 ·exact⟨none,0,by rw[hn],by omega,by simp[maxLen],hok,fun hp=>by omega⟩
 ·refine⟨some ⟨g,0,none⟩,cap,rfl,k1,k2,hok,fun _=>⟨g,0,rfl,(Array.getElem?_eq_some_iff.1 hgg).1,fun i hi=> ?_⟩⟩
  obtain⟨a,b,c⟩:=z7L l i hi
  have q:=fun j u hj=>h.cells (g:=g) rfl j u hj
  simp only[Addr.add_lit,Nat.zero_add]at q⊢
  exact⟨q _ _ a,q _ _ b,q _ _ c⟩
theorem z2Z{l:List Inp}{p:Inp->Bool}{k:Nat}(h:k<l.length):(l.take (k+1)).filter p=(l.take k).filter p++(if p (l.getD k Inp0)then [l.getD k Inp0]else []):=by
 rw[List.take_succ_eq_append_getElem h,List.filter_append,List.getD_eq_getElem?_getD,List.getElem?_eq_getElem h]
 congr 1
 by_cases hp:p l[k]
 ·simp[hp]
 ·simp[hp]
theorem z6E:∀(a b:List Wr),wrC (a++b)=wrC a++wrC b
 |[],b=>rfl
 |x::t,b=>by
  show [.int .i64 x.ck,.int .i64 x.at',.int .u8 x.v]++wrC (t++b)=([.int .i64 x.ck,.int .i64 x.at',.int .u8 x.v]++wrC t)++wrC b
  rw[z6E t b,List.append_assoc]
theorem z4D{m:Mach}{ins:List Inp}{n:Int}(h1:m.Right)(h2:chkI ins m.ck=0)(h3:0<=n)(h4:n<=20000)(h5:m.ck+n<=200000):errL m ins n=0:=by
 unfold errL
 rw[if_neg (fun k=>k ((z0Q m).2 h1)),if_neg (fun k=>k h2),if_neg kO]
theorem q_lt{k L:Nat}{K N:Int}(h:k<L)(hK:K=k)(hN:N=L):K<N/\0<=K/\k=K.toNat:=by omega
theorem q_ge{k L:Nat}{K N:Int}(h:¬k<L)(hK:K=k)(hN:N=L):¬K<N:=by omega
theorem q_w{k L:Nat}{K:Int}(h:k<L)(hK:K=k)(hL:L<=40):wrap64 (K+1)=K+1/\K+1=((k+1:Nat):Int):=⟨z0l _ kO kO,by omega⟩
theorem q_ms{k L:Nat}{K:Int}(h:k<L)(hK:K=k):L-(intOf (.int .i64 (K+1))).toNat<L-(intOf (.int .i64 K)).toNat:=by
 show L-(K+1).toNat<L-K.toNat
 omega
theorem good(V:Nat->Value)(m:Mach)(v:Value)(ins:List Inp)(a b:Nat)(w:World)(hm:MV w V m)(hi:m.In)(hI:InpsAt w v ins)(hL:Lk w)(hr:m.Right)(hc:chkI ins m.ck=0)(hab:a+b<=20000)(hk:m.ck+a+b<=200000)(hf:¬19000<m.bm.fr):
  Calls Tryz.prog 5 #[.agg (machC V m),v,.int .i64 a,.int .i64 b] w fun e w'=>e= .returned (.bool true)/\Below w.heap.size w w':=by
 have hc0:chkFrom m.ck ins=0:=by
  unfold chkI at hc
  split at hc
  ·cases hc
  ·exact hc
 have h40:ins.length<=40:=by
  unfold chkI at hc
  split at hc
  ·cases hc
  ·omega
 have hok:∀i∈ins,i.Ok:=by
  obtain⟨_,_,_,_,_,h,_⟩:=hI
  exact h
 have hd:∀i∈ins,U8 i.dn:=fun i hi=>(hok i hi).2.2
 have hck:=hr.time.1
 have A0:=z2C hi hr hc0 hd
 have AA:=A0.run a hck.1 kO
 have BB:=(z3W (ins:=ins) hr.bm.1).run A0 a hr.bm.1 hck.1 kO hr.bm.2.1 kO kO
 rw[Nat.zero_add]at AA BB
 have MR:=z3n AA BB hr.bm.1 hr.bm.2.1 kO kO hck.1 kO
 have MI:=AA.wk.inn
 have MK:=AA.ck
 have TP:=z6M A0 a b hck.1 kO
 have LC:=z4X A0 hck.1 a kO
 have FR:=z7O A0 hck.1 a kO
 have FQ:=z0bs BB hr.bm.1 kO kO
 obtain⟨C,hC⟩:∃C,C=lkN (cnI m ins) a:=⟨_,rfl⟩
 rw[<-hC]at AA BB MR MI MK TP LC FR FQ
 obtain⟨P,hP⟩:∃P:Inp->Bool,P=fun i=>decide (m.ck+a<=i.ck):=⟨_,rfl⟩
 rw[<-hP]at TP
 obtain⟨Q,hQ⟩:∃Q:Inp->Bool,Q=fun i=>decide (i.ck<m.ck+a):=⟨_,rfl⟩
 rw[<-hQ]at FR
 have hcq:chkI (ins.filter Q) m.ck=0:=z3d hc (fun i hi _=>Rise.all (z1E hc0) i hi)
 have hokq:∀i∈ins.filter Q,i.Ok:=fun i hi=>hok i (List.mem_filter.1 hi).1
 have hc1:chkI (ins.filter P) C.x.m.ck=0:=z3d hc (fun i _ hp=>by rw[hP]at hp;have:=of_decide_eq_true hp;omega)
 have hok1:∀i∈ins.filter P,i.Ok:=fun i hi=>hok i (List.mem_filter.1 hi).1
 have hc2:chkFrom C.x.m.ck (ins.filter P)=0:=by
  unfold chkI at hc1
  split at hc1
  ·cases hc1
  ·exact hc1
 have A1:=z2C MI MR hc2 (fun i hi=>(hok1 i hi).2.2)
 have LD:=z4X A1 kO b kO
 have RN1:=zh (fun W (k:Below w.heap.size w W)=>z1I V m v ins a W (hm.below k) hi hr (hI.below k) hc kO kO kO)
 have RN2:=zh (fun W U u (k1:MV W U C.x.m) (k2:InpsAt W u (ins.filter P))=>z1I U C.x.m u (ins.filter P) b W k1 MI MR k2 hc1 kO kO kO)
 have RN3:=zh (fun W (k:Below w.heap.size w W)=>z1I V m v ins (a+b) W (hm.below k) hi hr (hI.below k) hc kO kO kO)
 rw[show lkN (cn0 m ins) a=C from hC.symm]at RN1
 have RN4:=zh (fun W u (k:Below w.heap.size w W) (k2:InpsAt W u (ins.filter Q))=>z1I V m u (ins.filter Q) a W (hm.below k) hi hr k2 hcq kO kO kO)
 rw[show lkN (cn0 m (ins.filter Q)) a=lkN (cnI m (ins.filter Q)) a from rfl,FR.1,FR.2.1,FR.2.2]at RN4
 obtain⟨D,hD⟩:∃D,D=lkN (cnI C.x.m (ins.filter P)) b:=⟨_,rfl⟩
 rw[show lkN (cn0 C.x.m (ins.filter P)) b=D from hD.symm]at RN2
 rw[<-hD]at TP LD
 rw[show lkN (cn0 m ins) (a+b)=lkN (cnI m ins) (a+b)from rfl,TP.m,TP.ls,TP.ss,TP.ws]at RN3
 have HAB:Hid (a+b<=20000):=zh hab
 have HLC:=zh LC
 have HLD:=zh LD
 obtain⟨A,hA⟩:∃A:Int,A=a:=⟨_,rfl⟩
 obtain⟨B,hB⟩:∃B:Int,B=b:=⟨_,rfl⟩
 have hAB:((a+b:Nat):Int)=A+B:=by omega
 rw[hAB]at RN3
 rw[<-hA]at RN1 RN4 hP hQ
 rw[<-hB]at RN2
 rw[<-hA,<-hB]
 have a0:0<=A:=by omega
 have b0:¬B<0:=by omega
 have b0d:decide (B<0)=false:=decide_eq_false b0
 have b1:B<=20000-A:=by omega
 have b1d:decide (20000-A<B)=false:=decide_eq_false kO
 have WS:wrap64 (20000-A)=20000-A:=z0l _ kO kO
 have WAB:wrap64 (A+B)=A+B:=z0l _ kO kO
 have WKA:wrap64 (m.ck+A)=m.ck+A:=z0l _ kO kO
 have BR1:=zh (fun W (k:Below w.heap.size w W)=>z2l V m v ins A W (hm.below k) (hI.below k))
 rw[z4D hr hc a0 kO kO]at BR1
 have BR2:=zh (fun W (k:Below w.heap.size w W)=>z2l V m v ins (A+B) W (hm.below k) (hI.below k))
 rw[z4D hr hc kO kO kO]at BR2
 have ON0:=zh (z0t m (fun i hi=>hm.one i hi))
 have ONZ:=z0F
 have LG:=zh (fun W=>z2z V m (A+B) W ON0.out)
 rw[decide_eq_false hf]at LG
 have HL:=zh hL
 have HOK:=zh hok1
 have HOQ:=zh hokq
 have HOI:=zh hok
 have H40:=zh h40
 have HP:=zh hP
 have HQ:=zh hQ
 have HI0:=zh (fun W (k:Below w.heap.size w W)=>hI.below k)
 obtain⟨I0,hi0,hz0,hz1,hz2⟩:=info_parts infoI
 have HII:=zh (And.intro hi0 (And.intro hz0 (And.intro hz1 hz2)))
 have HOC:=zh (And.intro hr.lens trivial)
 obtain⟨av,cv,rfl,q1,q2,-⟩:=hI
 obtain⟨N,hN⟩:∃N:Int,N=ins.length:=⟨_,rfl⟩
 have HN:=zh hN
 clear hm hi hL hr hc hc0 hok hd hck A0 AA BB MR MI TP LC hC hc1 hok1 hc2 A1 LD hD hAB hA hB hf hab hk hi0 hz0 hz1 hz2 hP HOC h40 MK hQ hcq hokq FR FQ
 go_enter Tryz.func5,Tryz.ntmps5
 go_wp2_with (first|((with_reducible show wpList _ _ _ _ _ _);refine lG 42 4 (by rfl) rfl (w.heap.size) (0) 75 rfl 42 (machC V m) (machC V m) kB Tryz.underlying42 ?_))
 refine(z1n _ (HL.out.below kL)).mono ?_
 rintro e w1 ⟨rfl,hb1⟩
 have KM:=zh (show Blk w1 w.heap.size (machC V m) 42 from kB)
 have Q1:Below w.heap.size w w1:=kL
 clear hb1
 go_wp2_with (first|((with_reducible show wpList _ _ _ _ _ _);first|(refine lG 42 4 (by rfl) rfl (w.heap.size) (0) 75 rfl 42 (machC V m) (machC V m) kB Tryz.underlying42 ?_)|(refine lW 42 4 rfl rfl (w.heap.size) rfl (machC V m) kB Tryz.underlying42 ?_)))
 refine(BR1.out _ Q1).mono ?_
 rintro e w2 ⟨rfl,hb2⟩
 have Q2:=below_then Q1 hb2
 have KM2:=zh (KM.out.below hb2)
 clear hb2 Q1 KM
 go_wp2_with (first|((with_reducible show wpList _ _ _ _ _ _);first|(refine lG 42 4 (by rfl) rfl (w.heap.size) (0) 75 rfl 42 (machC V m) (machC V m) kB Tryz.underlying42 ?_)|(refine lW 42 4 rfl rfl (w.heap.size) rfl (machC V m) kB Tryz.underlying42 ?_)))
 refine(BR2.out _ Q2).mono ?_
 rintro e w4 ⟨rfl,hb4⟩
 have Q4:=below_then Q2 hb4
 have KM4:=zh (KM2.out.below hb4)
 clear hb4 Q2 KM2
 go_wp2_with (first|((with_reducible show wpList _ _ _ _ _ _);first|(refine lG 42 4 (by rfl) rfl (w.heap.size) (0) 75 rfl 42 (machC V m) (machC V m) kB Tryz.underlying42 ?_)|(refine lW 42 4 rfl rfl (w.heap.size) rfl (machC V m) kB Tryz.underlying42 ?_)))
 refine(LG.out _).mono ?_
 rintro e w5 ⟨rfl,hb5⟩
 have Q5:=below_then Q4 hb5
 have KM5:=zh (KM4.out.below hb5)
 clear hb5 Q4 KM4 BR1 BR2 LG HL b0 b0d b1 b1d WS
 go_wp2_with (first|((with_reducible show wpList _ _ _ _ _ _);first|(refine lG 42 4 (by rfl) rfl (w.heap.size) (0) 75 rfl 42 (machC V m) (machC V m) kB Tryz.underlying42 ?_)|(refine lW 42 4 rfl rfl (w.heap.size) rfl (machC V m) kB Tryz.underlying42 ?_)))
 have s5:=Q5.size
 go_loopw [9,10,64] (fun r q i wr=>∃(k:Nat) (K:Int) (ac1 ac2:List Inp),i= .int .i64 K/\Hid (K=k/\k<=ins.length/\ac1=(ins.take k).filter Q/\ac2=(ins.take k).filter P)/\Hid (wr.ownsRow w5.heap.size 63 3 r ac1.length (inpC ac1)/\wr.ownsRow w5.heap.size 63 3 q ac2.length (inpC ac2)/\Apart r q)/\Below w5.heap.size w5 wr) (fun _ _ i _=>ins.length-(intOf i).toNat)
 case atStart=>exact⟨0,0,[],[],rfl,zh ⟨rfl,Nat.zero_le _,rfl,rfl⟩,zh ⟨⟨rfl,.inl ⟨rfl,rfl⟩⟩,⟨rfl,.inl ⟨rfl,rfl⟩⟩,fun g h=>by cases h⟩,Below.refl _ _⟩
 case round=>
  obtain⟨k,K,ac1,ac2,rfl,hK,OW,hb⟩:=hrel
  obtain⟨ao1,cp1,rfl⟩:=z0c OW.out.1
  obtain⟨ao2,cp2,rfl⟩:=z0c OW.out.2.1
  have AL:Hid (ac1.length<=40/\ac2.length<=40):=zh (by
   have t:=H40.out
   rw[hK.out.2.2.1,hK.out.2.2.2]
   exact⟨Nat.le_trans (List.length_filter_le _ _) (Nat.le_trans (by rw[List.length_take];exact Nat.min_le_right _ _) t),Nat.le_trans (List.length_filter_le _ _) (Nat.le_trans (by rw[List.length_take];exact Nat.min_le_right _ _) t)⟩)
  by_cases hkn:k<ins.length
  ·have LT:K<ins.length:=by rw[hK.out.1];exact Int.ofNat_lt.2 hkn
   obtain⟨-,K0,hkk⟩:=q_lt hkn hK.out.1 rfl
   obtain⟨WK,hK1⟩:=q_w hkn hK.out.1 H40.out
   have MS:=zh (q_ms hkn hK.out.1)
   obtain⟨a',cap',ea,-,-,-,q4⟩:=HI0.out wr (below_then Q5 hb)
   injection ea with ea1 ea2 ea3
   subst ea1 ea3
   obtain⟨g,off,rfl,gl,gc⟩:=q4 (Nat.lt_of_le_of_lt (Nat.zero_le _) hkn)
   obtain⟨c0,c1,c2⟩:=gc k hkn
   have FT:=zh (And.intro (z2Z (p:=Q) hkn) (z2Z (p:=P) hkn))
   have OK:=zh (HOI.out (ins.getD k Inp0) (by rw[List.getD_eq_getElem?_getD,List.getElem?_eq_getElem hkn];exact List.getElem_mem hkn))
   obtain⟨y,ey⟩:∃y,y=ins.getD k Inp0:=⟨_,rfl⟩
   rw[<-ey]at c0 c1 c2 FT OK
   rw[hkk]at c0 c1 c2
   have HKN:=zh (And.intro hkn (And.intro hkk (And.intro hK1 ey)))
   have sr:=hb.size
   clear gc q4 hkn hkk hK1 ey
   go_upto_region 7 with(first|((with_reducible show wpList _ _ _ _ _ _);refine sW 63 12 67 rfl rfl (wr.heap.size) #[.int .i64 y.ck,.int .i64 y.pd,.int .u8 y.dn] rfl rfl #[.int .i64 0,.int .i64 0,.int .u8 0] kB ?_;intro w9 hp_w9 K_w9))
   have b9:Below w5.heap.size w5 w9:=kL
   have KMr:=KM5.out.below b9
   have m72:=(KMr.cell 72).trans (mx72 V _)
   have z0:w9.cell? ⟨wr.heap.size,0,none⟩=some (.int .i64 y.ck):=K_w9.out.cell 0
   have B9:=zh b9
   have KY:=zh K_w9.out
   have OW9:Hid (w9.ownsRow w5.heap.size 63 3 (.slice ao1 ac1.length cp1) ac1.length (inpC ac1)/\w9.ownsRow w5.heap.size 63 3 (.slice ao2 ac2.length cp2) ac2.length (inpC ac2)/\Apart (.slice ao1 ac1.length cp1) (.slice ao2 ac2.length cp2)):=zh ⟨own_below OW.out.1 (below_put (below_alloc (Below.refl _ _) _) hp_w9 kS),own_below OW.out.2.1 (below_put (below_alloc (Below.refl _ _) _) hp_w9 kS),OW.out.2.2⟩
   have ml:=KMr.lt
   have yl:=K_w9.out.lt
   clear KMr hp_w9 K_w9 b9 hb OW
   by_cases hp:y.ck<m.ck+A
   ·have hpd:Q y=true/\P y=false:=⟨by rw[HQ.out];exact decide_eq_true hp,by rw[HP.out];exact decide_eq_false (Int.not_le.2 hp)⟩
    rw[hpd.1,hpd.2,if_pos rfl,if_neg Bool.false_ne_true]at FT
    have FT:=zh FT
    clear hpd
    go_wp2_with (first
     |((with_reducible show wpList _ _ _ _ _ _);refine lW 63 12 rfl rfl (wr.heap.size) rfl #[.int .i64 y.ck,.int .i64 y.pd,.int .u8 y.dn] kB Tryz.underlying63 ?_)
     |(at_builtin;refine wpList_append_own_at _ rfl (.tmp 75) (.tmp 77) 23 rfl w5.heap.size 63 I0 (.agg #[.int .i64 0,.int .i64 0,.int .u8 0]) 3 24 Tryz.underlying23 HII.out.1 HII.out.2.1 HII.out.2.2.1 HII.out.2.2.2 rfl kD _ _ _ rfl (World.ownsRow.alloc OW9.out.1 _) ⟨w9.heap.size,0,none⟩ 1 1 [.int .i64 y.ck,.int .i64 y.pd,.int .u8 y.dn] rfl rfl (by intro j u hj;match j,hj with|0,hj=>(simp at hj;subst hj;simp[Addr.add])|1,hj=>(simp at hj;subst hj;simp[Addr.add])|2,hj=>(simp at hj;subst hj;simp[Addr.add])) (by intro u hu;simp at hu;rcases hu with rfl|rfl|rfl<;>rfl) (by have:=AL.out;unfold maxLen;omega) (by have:=AL.out;omega) (by simp;omega) ?_)
     |fail)
    intro v' w10 hown hgrow _ hat
    have hb10:Below w5.heap.size w5 w10:=z0p (below_alloc B9.out _) (by have:=B9.out.size;simp;omega) hgrow (World.ownsRow.alloc OW9.out.1 _) (Nat.le_refl _)
    obtain⟨t1,t2⟩:=z5h (World.ownsRow.alloc OW9.out.2.1 _) OW9.out.2.2 hgrow (hat.imp_right fun e=>by rw[e];simp)
    have HO:Hid (w10.ownsRow w5.heap.size 63 3 v' (ac1++[y]).length (inpC (ac1++[y]))/\w10.ownsRow w5.heap.size 63 3 (.slice ao2 ac2.length cp2) ac2.length (inpC ac2)/\Apart v' (.slice ao2 ac2.length cp2)):=zh ⟨by
     rw[List.length_append,z4B]
     exact hown,t1,t2⟩
    clear hown hgrow hat t1 t2
    go_wp2_with (first|((with_reducible show wpList _ _ _ _ _ _);first|(refine lG 42 4 (by rfl) rfl (w.heap.size) (0) 75 rfl 42 (machC V m) (machC V m) kB Tryz.underlying42 ?_)|(refine lW 42 4 rfl rfl (w.heap.size) rfl (machC V m) kB Tryz.underlying42 ?_))|go_in)
    go_roundw
    case rel=>exact⟨k+1,K+1,ac1++[y],ac2,by rw[WK],zh ⟨HKN.out.2.2.1,HKN.out.1,by rw[FT.out.1,<-hK.out.2.2.1],by rw[FT.out.2,List.append_nil,<-hK.out.2.2.2]⟩,HO,hb10⟩
    case measure=>rw[WK];exact MS.out
   ·have hpd:Q y=false/\P y=true:=⟨by rw[HQ.out];exact decide_eq_false hp,by rw[HP.out];exact decide_eq_true (Int.not_lt.1 hp)⟩
    rw[hpd.1,hpd.2,if_pos rfl,if_neg Bool.false_ne_true]at FT
    have FT:=zh FT
    clear hpd
    go_wp2_with (first
     |((with_reducible show wpList _ _ _ _ _ _);refine lW 63 12 rfl rfl (wr.heap.size) rfl #[.int .i64 y.ck,.int .i64 y.pd,.int .u8 y.dn] kB Tryz.underlying63 ?_)
     |(at_builtin;refine wpList_append_own_at _ rfl (.tmp 79) (.tmp 81) 23 rfl w5.heap.size 63 I0 (.agg #[.int .i64 0,.int .i64 0,.int .u8 0]) 3 24 Tryz.underlying23 HII.out.1 HII.out.2.1 HII.out.2.2.1 HII.out.2.2.2 rfl kD _ _ _ rfl (World.ownsRow.alloc OW9.out.2.1 _) ⟨w9.heap.size,0,none⟩ 1 1 [.int .i64 y.ck,.int .i64 y.pd,.int .u8 y.dn] rfl rfl (by intro j u hj;match j,hj with|0,hj=>(simp at hj;subst hj;simp[Addr.add])|1,hj=>(simp at hj;subst hj;simp[Addr.add])|2,hj=>(simp at hj;subst hj;simp[Addr.add])) (by intro u hu;simp at hu;rcases hu with rfl|rfl|rfl<;>rfl) (by have:=AL.out;unfold maxLen;omega) (by have:=AL.out;omega) (by simp;omega) ?_)
     |fail)
    intro v' w10 hown hgrow _ hat
    have hb10:Below w5.heap.size w5 w10:=z0p (below_alloc B9.out _) (by have:=B9.out.size;simp;omega) hgrow (World.ownsRow.alloc OW9.out.2.1 _) (Nat.le_refl _)
    obtain⟨t1,t2⟩:=z5h (World.ownsRow.alloc OW9.out.1 _) OW9.out.2.2.symm hgrow (hat.imp_right fun e=>by rw[e];simp)
    have HO:Hid (w10.ownsRow w5.heap.size 63 3 (.slice ao1 ac1.length cp1) ac1.length (inpC ac1)/\w10.ownsRow w5.heap.size 63 3 v' (ac2++[y]).length (inpC (ac2++[y]))/\Apart (.slice ao1 ac1.length cp1) v'):=zh ⟨t1,by
     rw[List.length_append,z4B]
     exact hown,t2.symm⟩
    clear hown hgrow hat t1 t2
    go_wp2_with (first|((with_reducible show wpList _ _ _ _ _ _);first|(refine lG 42 4 (by rfl) rfl (w.heap.size) (0) 75 rfl 42 (machC V m) (machC V m) kB Tryz.underlying42 ?_)|(refine lW 42 4 rfl rfl (w.heap.size) rfl (machC V m) kB Tryz.underlying42 ?_))|go_in)
    go_roundw
    case rel=>exact⟨k+1,K+1,ac1,ac2++[y],by rw[WK],zh ⟨HKN.out.2.2.1,HKN.out.1,by rw[FT.out.1,List.append_nil,<-hK.out.2.2.1],by rw[FT.out.2,<-hK.out.2.2.2]⟩,HO,hb10⟩
    case measure=>rw[WK];exact MS.out
  ·have LT:¬K<ins.length:=by rw[hK.out.1];exact fun h=>hkn (Int.ofNat_lt.1 h)
   have KMr:=zh (KM5.out.below hb)
   have Qr:=below_then Q5 hb
   have EA:ac1=ins.filter Q:=by
    rw[hK.out.2.2.1,List.take_of_length_le (Nat.le_of_not_lt hkn)]
   have EB:ac2=ins.filter P:=by
    rw[hK.out.2.2.2,List.take_of_length_le (Nat.le_of_not_lt hkn)]
   subst EA EB
   have IQ:=zh (z4r OW.out.1 HOQ.out)
   have IR:=zh (z4r OW.out.2.1 HOK.out)
   have sr:=hb.size
   clear KM5 hb hK hkn OW AL
   go_wp2_with (first|((with_reducible show wpList _ _ _ _ _ _);refine lW 42 4 rfl rfl (w.heap.size) rfl (machC V m) kB Tryz.underlying42 ?_))
   refine(RN1.out _ Qr).mono ?_
   rintro e w6 ⟨U1,lv1,sv1,wv1,rfl,T1⟩
   have hb6:=T1.told.below
   have Q6:=below_then Qr hb6
   have KM6:=zh (KMr.out.below hb6)
   have IQ6:=zh (IQ.out.below hb6)
   have IR6:=zh (IR.out.below hb6)
   have ON1:=z1K T1
   have OS1:=z1b T1
   have TT1:=zh T1
   have s6:=Q6.size
   have l6:=KM6.out.lt
   clear hb6 T1 Qr KMr RN1 IQ IR sr s5
   go_wp2_with (first|((with_reducible show wpList _ _ _ _ _ _);first|(refine sW 42 13 89 rfl rfl (w6.heap.size) (machC U1 C.x.m) rfl rfl Tryz.zeroCells42 kB ?_;intro w7 hp_w7 K_w7)|(refine sW 46 14 90 rfl rfl (w6.heap.size+1) (#[lv1,sv1,wv1]) rfl rfl #[.slice none 0 0,.slice none 0 0,.slice none 0 0] kB ?_;intro w8 hp_w8 K_w8)|(refine lW 42 4 rfl rfl (w.heap.size) rfl (machC V m) kB Tryz.underlying42 ?_)))
   have b68:Below w6.heap.size w6 w8:=kL
   have Q8:Below w.heap.size w w8:=kL
   have KX8:=zh (K_w7.out.put hp_w8 (Nat.ne_of_lt (Nat.lt_succ_self _)))
   have KS8:=zh K_w8.out
   have KM8:=zh (KM6.out.below b68)
   have IQ8:=zh (IQ6.out.below b68)
   have IR8:=zh (IR6.out.below b68)
   have B68:=zh b68
   clear hp_w7 hp_w8 K_w7 K_w8 Q6 s6 KM6 b68 IQ6 IR6
   refine(RN4.out _ _ Q8 IQ8.out).mono ?_
   rintro e y1 ⟨U4,lv4,sv4,wv4,rfl,T4⟩
   have hb9:=T4.told.below
   have Q9:=below_then Q8 hb9
   have KX9:=zh (KX8.out.below hb9)
   have KS9:=zh (KS8.out.below hb9)
   have KM9:=zh (KM8.out.below hb9)
   have IR9:=zh (IR8.out.below hb9)
   have B69:=zh (below_then B68.out hb9)
   have ON4:=z1K T4
   have OS4:=z1b T4
   have TT4:=zh T4
   have s9:=Q9.size
   have l9:=KX9.out.lt
   clear hb9 T4 Q8 KX8 KS8 KM8 IR8 B68 IQ8 RN4
   go_wp2_with (first|((with_reducible show wpList _ _ _ _ _ _);first|(refine sW 42 16 97 rfl rfl (y1.heap.size) (machC U4 C.x.m) rfl rfl Tryz.zeroCells42 kB ?_;intro y2 hp_y2 K_y2)|(refine sW 46 17 98 rfl rfl (y1.heap.size+1) (#[lv4,sv4,wv4]) rfl rfl #[.slice none 0 0,.slice none 0 0,.slice none 0 0] kB ?_;intro y3 hp_y3 K_y3)|(refine lW 42 13 rfl rfl (w6.heap.size) rfl (machC U1 C.x.m) kB Tryz.underlying42 ?_)))
   have b13:Below y1.heap.size y1 y3:=kL
   have Qr:Below w.heap.size w y3:=kL
   have KU3:=zh (K_y2.out.put hp_y3 (Nat.ne_of_lt (Nat.lt_succ_self _)))
   have KV3:=zh K_y3.out
   have KX3:=zh (KX9.out.below b13)
   have KSr:=zh (KS9.out.below b13)
   have KMr:=zh (KM9.out.below b13)
   have IR:=zh (IR9.out.below b13)
   have Br:=below_then B69.out b13
   have B4y:=zh b13
   clear hp_y2 hp_y3 K_y2 K_y3 Q9 KX9 KS9 KM9 IR9 B69 b13 s9 l9
   have M1:=TT1.out.told.mv.below Br
   refine(RN2.out _ U1 _ M1 IR.out).mono ?_
   rintro e x1 ⟨U2,lv2,sv2,wv2,rfl,T2⟩
   have hx1:=T2.told.below
   have QX1:=below_then Qr hx1
   have BX1:=zh (below_then Br hx1)
   have BY1:=zh (below_then B4y.out hx1)
   have KX1:=zh (KX3.out.below hx1)
   have KU1:=zh (KU3.out.below hx1)
   have KV1:=zh (KV3.out.below hx1)
   have KS1:=zh (KSr.out.below hx1)
   have KM1:=zh (KMr.out.below hx1)
   have ON2:=z1K T2
   have OS2:=z1b T2
   have TT2:=zh T2
   have s7:=QX1.size
   have l7:=KS1.out.lt
   have l8:=KM1.out.lt
   clear hx1 T2 Qr Br KSr KMr IR M1 RN2 B4y KX3 KU3 KV3
   go_wp2_with (first|((with_reducible show wpList _ _ _ _ _ _);first|(refine sW 42 19 105 rfl rfl (x1.heap.size) (machC U2 D.x.m) rfl rfl Tryz.zeroCells42 kB ?_;intro x2 hp_x2 K_x2)|(refine sW 46 20 106 rfl rfl (x1.heap.size+1) (#[lv2,sv2,wv2]) rfl rfl #[.slice none 0 0,.slice none 0 0,.slice none 0 0] kB ?_;intro x3 hp_x3 K_x3)|(refine lW 42 4 rfl rfl (w.heap.size) rfl (machC V m) kB Tryz.underlying42 ?_)))
   have b13:Below x1.heap.size x1 x3:=kL
   have Q3:Below w.heap.size w x3:=kL
   have KY3:=zh (K_x2.out.put hp_x3 (Nat.ne_of_lt (Nat.lt_succ_self _)))
   have KT3:=zh K_x3.out
   have KS3:=zh (KS1.out.below b13)
   have KX3:=zh (KX1.out.below b13)
   have KU3:=zh (KU1.out.below b13)
   have KV3:=zh (KV1.out.below b13)
   have B3:=zh b13
   clear hp_x2 hp_x3 K_x2 K_x3 QX1 KS1 KM1 KX1 KU1 KV1 b13 l7
   refine(RN3.out _ Q3).mono ?_
   rintro e x4 ⟨U3,lv3,sv3,wv3,rfl,T3⟩
   have hx4:=T3.told.below
   have Q4:=below_then Q3 hx4
   have KS4:=zh (KS3.out.below hx4)
   have KT4:=zh (KT3.out.below hx4)
   have KY4:=zh (KY3.out.below hx4)
   have KX4:=zh (KX3.out.below hx4)
   have KU4:=zh (KU3.out.below hx4)
   have KV4:=zh (KV3.out.below hx4)
   have B4:=zh (below_then B3.out hx4)
   have ON3:=z1K T3
   have OS3:=z1b T3
   have TT3:=zh T3
   have s8:=Q4.size
   clear hx4 T3 Q3 KS3 KT3 KY3 KX3 KU3 KV3 B3 RN3 s7
   go_upto_region 15 with(first|((with_reducible show wpList _ _ _ _ _ _);first|(refine sW 42 22 115 rfl rfl (x4.heap.size) (machC U3 D.x.m) rfl rfl Tryz.zeroCells42 kB ?_;intro x5 hp_x5 K_x5)|(refine sW 46 23 116 rfl rfl (x4.heap.size+1) (#[lv3,sv3,wv3]) rfl rfl #[.slice none 0 0,.slice none 0 0,.slice none 0 0] kB ?_;intro x6 hp_x6 K_x6)))
   have b46:Below x4.heap.size x4 x6:=kL
   have KSx:=zh (KS4.out.below b46)
   have KXx:=zh (KX4.out.below b46)
   have KUx:=zh (KU4.out.below b46)
   have KVx:=zh (KV4.out.below b46)
   have KTx:=zh (KT4.out.below b46)
   have KYx:=zh (KY4.out.below b46)
   have KZx:=zh (K_x5.out.put hp_x6 (Nat.ne_of_lt (Nat.lt_succ_self _)))
   have KWx:=zh K_x6.out
   have Q6:=below_then Q4 b46
   have Bb:=below_then B4.out b46
   have B6x:=below_then BX1.out Bb
   have B6y:=below_then BY1.out Bb
   have MX:=zh (TT1.out.told.mv.below B6x)
   have MU:=zh (TT4.out.told.mv.below B6y)
   have SHa:Hid (ShAt x6 lv1 sv1 wv1 C.ls C.ss C.x.ws):=zh ⟨TT1.out.lns.row.below B6x,RowAt.bytes (TT1.out.sms.row.below B6x) TT1.out.ok.2,(Wrs.row TT1.out.wrs).below B6x⟩
   have SHb:Hid (ShAt x6 lv4 sv4 wv4 C.ls C.ss C.x.ws):=zh ⟨TT4.out.lns.row.below B6y,RowAt.bytes (TT4.out.sms.row.below B6y) TT4.out.ok.2,(Wrs.row TT4.out.wrs).below B6y⟩
   have OK1:=zh TT1.out.ok
   have RL1:=zh (TT1.out.lns.row.below B6x)
   have RS1:=zh (TT1.out.sms.row.below B6x)
   have RW1:=zh ((Wrs.row TT1.out.wrs).below B6x)
   have RL2:=zh (TT2.out.lns.row.below Bb)
   have RS2:=zh (TT2.out.sms.row.below Bb)
   have RW2:=zh ((Wrs.row TT2.out.wrs).below Bb)
   have MY:=zh (TT2.out.told.mv.below Bb)
   have MZ:=zh (TT3.out.told.mv.below b46)
   have RL3:=zh (TT3.out.lns.row.below b46)
   have RS3:=zh (TT3.out.sms.row.below b46)
   have RW3:=zh ((Wrs.row TT3.out.wrs).below b46)
   have OK3:=zh TT3.out.ok
   have l10:=KSx.out.lt
   have l16:=KTx.out.lt
   have HN6:Hid (C.ls.length<=20000/\C.ss.length<=20000/\C.x.ws.length<=80000/\D.ls.length<=20000/\D.ss.length<=20000/\D.x.ws.length<=80000):=zh (by
    have h1:=HLC.out
    have h2:=HLD.out
    have h3:=HAB.out
    omega)
   clear KS4 KT4 KY4 KX4 KU4 KV4 BY1 B6y TT4 K_x5 K_x6 hp_x5 hp_x6 Q4 B4 BX1 b46 B6x Bb TT1 TT2 TT3 HI0 HOI HOK HOQ HQ H40 HP HN HII HLC HLD
   obtain⟨al1,cl1,rfl,-⟩:=id RL1.out
   obtain⟨al2,cl2,rfl,-⟩:=id RL2.out
   obtain⟨as1,cs1,rfl,-⟩:=id RS1.out
   obtain⟨as2,cs2,rfl,-⟩:=id RS2.out
   obtain⟨aw1,cw1,rfl,-⟩:=id RW1.out
   obtain⟨aw2,cw2,rfl,-⟩:=id RW2.out
   refine wp_region_held_drew (S:=fun X=>Below x6.heap.size x6 X) kR (Below.refl _ _).drew (fun hS=> ?_)
   refine tH 0 hS ?_
   refine tI 1 rfl (by intro w hSw;have e:w.cell? ⟨w6.heap.size+1,0,none⟩=some (.slice al1 C.ls.length cl1):=(KSx.out.below hSw).cell 0;go_simp;try with_reducible rfl) hS ?_
   try simp only[yA,yB,yC,Act.put,yD,yE,yF]
   refine tH 2 hS ?_
   refine tI 3 rfl (by intro w hSw;have e:w.cell? ⟨x1.heap.size+1,0,none⟩=some (.slice al2 D.ls.length cl2):=(KTx.out.below hSw).cell 0;go_simp;try with_reducible rfl) hS ?_
   try simp only[yA,yB,yC,Act.put,yD,yE,yF]
   refine tH 6 hS ?_
   refine tI 7 rfl (by intro w hSw;have e:w.cell? ⟨w6.heap.size+1,1,none⟩=some (.slice as1 C.ss.length cs1):=(KSx.out.below hSw).cell 1;go_simp;try with_reducible rfl) hS ?_
   try simp only[yA,yB,yC,Act.put,yD,yE,yF]
   refine tH 8 hS ?_
   refine tI 9 rfl (by intro w hSw;have e:w.cell? ⟨x1.heap.size+1,1,none⟩=some (.slice as2 D.ss.length cs2):=(KTx.out.below hSw).cell 1;go_simp;try with_reducible rfl) hS ?_
   try simp only[yA,yB,yC,Act.put,yD,yE,yF]
   refine tH 12 hS ?_
   refine tI 13 rfl (by intro w hSw;have e:w.cell? ⟨w6.heap.size+1,2,none⟩=some (.slice aw1 C.x.ws.length cw1):=(KSx.out.below hSw).cell 2;go_simp;try with_reducible rfl) hS ?_
   try simp only[yA,yB,yC,Act.put,yD,yE,yF]
   refine tH 14 hS ?_
   refine tI 15 rfl (by intro w hSw;have e:w.cell? ⟨x1.heap.size+1,2,none⟩=some (.slice aw2 D.x.ws.length cw2):=(KTx.out.below hSw).cell 2;go_simp;try with_reducible rfl) hS ?_
   try simp only[yA,yB,yC,Act.put,yD,yE,yF]
   refine z4N (fun a0 listed a W=>∃(b4:Bool) (b5:Bool) (b10:Bool) (b11:Bool) (b16:Bool) (b17:Bool) (b18:Bool) (b19:Bool) (b20:Bool) (v4:Value) (v5:Value) (v10:Value) (v11:Value) (v16:Value) (v17:Value) (v18:Value) (v19:Value),listed= #[true,true,true,true,b4,b5,true,true,true,true,b10,b11,true,true,true,true,b16,b17,b18,b19,b20]/\a=((((((((a0.put (some 122) v4).put (some 123) v5).put (some 128) v10).put (some 129) v11).put (some 134) v16).put (some 135) v17).put (some 136) v18).put (some 25) v19)/\CatAt x6 W (.slice al1 C.ls.length cl1) (.slice al2 D.ls.length cl2) (.slice as1 C.ss.length cs1) (.slice as2 D.ss.length cs2) (.slice aw1 C.x.ws.length cw1) (.slice aw2 D.x.ws.length cw2) (C.ls.length+D.ls.length) (C.ss.length+D.ss.length) (C.x.ws.length+D.x.ws.length) (lnsC C.ls++lnsC D.ls) (C.ss.map (Value.int .u8)++D.ss.map (Value.int .u8)) (wrC C.x.ws++wrC D.x.ws) b4 b5 b10 b11 b16 b17 b18 b19 b20 v4 v5 v10 v11 v16 v17 v18 v19) kR ?hJ kD ?init ?step ?last
   case hJ=>
    rintro l a' W ⟨_,_,_,_,_,_,_,_,_,_,_,_,_,_,_,_,_,rfl,-⟩
    rfl
   case init=>exact⟨false,false,false,false,false,false,false,false,false,undef,undef,undef,undef,undef,undef,undef,undef,by kernel_rfl,by kernel_rfl,⟨hS,by simp,by simp,by simp,by simp,by simp,by simp,by simp,by simp,by simp⟩⟩
   case step=>
    rintro l a' W i ⟨b4,b5,b10,b11,b16,b17,b18,b19,b20,v4,v5,v10,v11,v16,v17,v18,v19,rfl,rfl,hC⟩ hi
    have hlt:=z8H hi
    have hr:=(mem_ready.1 hi).1
    have BW:=hC.below
    have sW:=BW.size
    rcases(show i=0\/i=1\/i=2\/i=3\/i=4\/i=5\/i=6\/i=7\/i=8\/i=9\/i=10\/i=11\/i=12\/i=13\/i=14\/i=15\/i=16\/i=17\/i=18\/i=19\/i=20 by have:i<21:=hlt;omega)with rfl|rfl|rfl|rfl|rfl|rfl|rfl|rfl|rfl|rfl|rfl|rfl|rfl|rfl|rfl|rfl|rfl|rfl|rfl|rfl|rfl
    ·cases (show true=false from hr)
    ·cases (show true=false from hr)
    ·cases (show true=false from hr)
    ·cases (show true=false from hr)
    ·have HC:=zh hC
     clear hC hi hr hlt BW
     refine stepJ 4 fun K hK=> ?_
     go_simp
     have hC2:=HC.out.grow ((Below.refl W.heap.size W).alloc (Nat.le_refl _) (.cells #[(.slice al1 C.ls.length cl1),(.slice al2 D.ls.length cl2)] 43))
     obtain⟨q0,q4,q10,q16,q5,q11,q17,q18,q20,q19⟩:=hC2
     exact hK.out _ _ ⟨q0,⟨true,b5,b10,b11,b16,b17,b18,b19,b20,(.slice (some ⟨W.heap.size,0,none⟩) 2 2),v5,v10,v11,v16,v17,v18,v19,by kernel_rfl,by kernel_rfl,⟨q0,(fun _=>⟨W.heap.size,_,rfl,Blk.new _ _ _,by decide⟩),q10,q16,q5,q11,q17,q18,q20,q19⟩⟩⟩
    ·have h4:b4=true:=z0T hi 4 _ rfl kR
     obtain⟨g,t,hv,kg,ng⟩:=hC.f4 h4
     have HC:=zh hC
     have HNN:=HN6.out
     subst hv
     have CT:=zh (z9F W g t (.slice al1 C.ls.length cl1) (.slice al2 D.ls.length cl2) _ _ _ _ (RL1.out.below BW) (RL2.out.below BW) kg kO kO)
     have hb:b5=false:=hr
     clear hC kg HNN hi hr hlt BW
     replace hb:=zh hb
     refine stepJ 5 fun K hK=> ?_
     go_simp
     refine CT.out.mono ?_
     rintro e W2 ⟨ao2,cp2,rfl,ow2,hb2⟩
     try go_wp2_with fail
     have ow3:=z0z ow2 sW
     obtain⟨q0,q4,q10,q16,q5,q11,q17,q18,q20,q19⟩:=HC.out.grow hb2
     have n18:∀e:b18=true,False:=fun e=>absurd (q18 e).1.1 (by rw[hb.out];decide)
     have n20:b20=false:=by cases b20 with|false=>rfl|true=>exact absurd (q20 rfl).1 n18
     subst n20
     exact hK.out _ _ ⟨q0,⟨b4,true,b10,b11,b16,b17,b18,b19,false,(.slice (some ⟨g,0,none⟩) 2 2),(.slice ao2 (C.ls.length+D.ls.length) cp2),v10,v11,v16,v17,v18,v19,by kernel_rfl,by kernel_rfl,⟨q0,q4,q10,q16,(fun _=>ow3),q11,q17,(fun e=>(n18 e).elim),(fun e=>absurd e kD),q19⟩⟩⟩
    ·cases (show true=false from hr)
    ·cases (show true=false from hr)
    ·cases (show true=false from hr)
    ·cases (show true=false from hr)
    ·have HC:=zh hC
     clear hC hi hr hlt BW
     refine stepJ 10 fun K hK=> ?_
     go_simp
     have hC2:=HC.out.grow ((Below.refl W.heap.size W).alloc (Nat.le_refl _) (.cells #[(.slice as1 C.ss.length cs1),(.slice as2 D.ss.length cs2)] 22))
     obtain⟨q0,q4,q10,q16,q5,q11,q17,q18,q20,q19⟩:=hC2
     exact hK.out _ _ ⟨q0,⟨b4,b5,true,b11,b16,b17,b18,b19,b20,v4,v5,(.slice (some ⟨W.heap.size,0,none⟩) 2 2),v11,v16,v17,v18,v19,by kernel_rfl,by kernel_rfl,⟨q0,q4,(fun _=>⟨W.heap.size,_,rfl,Blk.new _ _ _,by decide⟩),q16,q5,q11,q17,q18,q20,q19⟩⟩⟩
    ·have h10:b10=true:=z0T hi 10 _ rfl kR
     obtain⟨g,t,hv,kg,ng⟩:=hC.f10 h10
     have HC:=zh hC
     have HNN:=HN6.out
     subst hv
     have CT:=zh (z9G W g t (.slice as1 C.ss.length cs1) (.slice as2 D.ss.length cs2) _ _ _ _ (RS1.out.below BW) (RS2.out.below BW) kg kO kO)
     have hb:b11=false:=hr
     clear hC kg HNN hi hr hlt BW
     replace hb:=zh hb
     refine stepJ 11 fun K hK=> ?_
     go_simp
     refine CT.out.mono ?_
     rintro e W2 ⟨ao2,cp2,rfl,ow2,hb2⟩
     try go_wp2_with fail
     have ow3:=z0z ow2 sW
     obtain⟨q0,q4,q10,q16,q5,q11,q17,q18,q20,q19⟩:=HC.out.grow hb2
     have n18:∀e:b18=true,False:=fun e=>absurd (q18 e).1.2.1 (by rw[hb.out];decide)
     have n20:b20=false:=by cases b20 with|false=>rfl|true=>exact absurd (q20 rfl).1 n18
     subst n20
     exact hK.out _ _ ⟨q0,⟨b4,b5,b10,true,b16,b17,b18,b19,false,v4,v5,(.slice (some ⟨g,0,none⟩) 2 2),(.slice ao2 (C.ss.length+D.ss.length) cp2),v16,v17,v18,v19,by kernel_rfl,by kernel_rfl,⟨q0,q4,q10,q16,q5,(fun _=>ow3),q17,(fun e=>(n18 e).elim),(fun e=>absurd e kD),q19⟩⟩⟩
    ·cases (show true=false from hr)
    ·cases (show true=false from hr)
    ·cases (show true=false from hr)
    ·cases (show true=false from hr)
    ·have HC:=zh hC
     clear hC hi hr hlt BW
     refine stepJ 16 fun K hK=> ?_
     go_simp
     have hC2:=HC.out.grow ((Below.refl W.heap.size W).alloc (Nat.le_refl _) (.cells #[(.slice aw1 C.x.ws.length cw1),(.slice aw2 D.x.ws.length cw2)] 44))
     obtain⟨q0,q4,q10,q16,q5,q11,q17,q18,q20,q19⟩:=hC2
     exact hK.out _ _ ⟨q0,⟨b4,b5,b10,b11,true,b17,b18,b19,b20,v4,v5,v10,v11,(.slice (some ⟨W.heap.size,0,none⟩) 2 2),v17,v18,v19,by kernel_rfl,by kernel_rfl,⟨q0,q4,q10,(fun _=>⟨W.heap.size,_,rfl,Blk.new _ _ _,by decide⟩),q5,q11,q17,q18,q20,q19⟩⟩⟩
    ·have h16:b16=true:=z0T hi 16 _ rfl kR
     obtain⟨g,t,hv,kg,ng⟩:=hC.f16 h16
     have HC:=zh hC
     have HNN:=HN6.out
     subst hv
     have CT:=zh (z9E W g t (.slice aw1 C.x.ws.length cw1) (.slice aw2 D.x.ws.length cw2) _ _ _ _ (RW1.out.below BW) (RW2.out.below BW) kg kO kO)
     have hb:b17=false:=hr
     clear hC kg HNN hi hr hlt BW
     replace hb:=zh hb
     refine stepJ 17 fun K hK=> ?_
     go_simp
     refine CT.out.mono ?_
     rintro e W2 ⟨ao2,cp2,rfl,ow2,hb2⟩
     try go_wp2_with fail
     have ow3:=z0z ow2 sW
     obtain⟨q0,q4,q10,q16,q5,q11,q17,q18,q20,q19⟩:=HC.out.grow hb2
     have n18:∀e:b18=true,False:=fun e=>absurd (q18 e).1.2.2 (by rw[hb.out];decide)
     have n20:b20=false:=by cases b20 with|false=>rfl|true=>exact absurd (q20 rfl).1 n18
     subst n20
     exact hK.out _ _ ⟨q0,⟨b4,b5,b10,b11,b16,true,b18,b19,false,v4,v5,v10,v11,(.slice (some ⟨g,0,none⟩) 2 2),(.slice ao2 (C.x.ws.length+D.x.ws.length) cp2),v18,v19,by kernel_rfl,by kernel_rfl,⟨q0,q4,q10,q16,q5,q11,(fun _=>ow3),(fun e=>(n18 e).elim),(fun e=>absurd e kD),q19⟩⟩⟩
    ·have h5:b5=true:=z0T hi 5 _ rfl kR
     have h11:b11=true:=z0T hi 11 _ rfl kR
     have h17:b17=true:=z0T hi 17 _ rfl kR
     obtain⟨a5,c5,rfl⟩:=z0c (hC.f5 h5)
     obtain⟨a11,c11,rfl⟩:=z0c (hC.f11 h11)
     obtain⟨a17,c17,rfl⟩:=z0c (hC.f17 h17)
     have HC:=zh hC
     have HH:=zh (And.intro h5 (And.intro h11 h17))
     clear hC hi hr hlt BW h5 h11 h17
     refine stepJ 18 fun K hK=> ?_
     go_simp
     obtain⟨q0,q4,q10,q16,q5,q11,q17,q18,q20,q19⟩:=HC.out
     exact hK.out _ _ ⟨q0,⟨b4,b5,b10,b11,b16,b17,true,b19,b20,v4,(.slice a5 (C.ls.length+D.ls.length) c5),v10,(.slice a11 (C.ss.length+D.ss.length) c11),v16,(.slice a17 (C.x.ws.length+D.x.ws.length) c17),(.agg #[(.slice a5 (C.ls.length+D.ls.length) c5),(.slice a11 (C.ss.length+D.ss.length) c11),(.slice a17 (C.x.ws.length+D.x.ws.length) c17)]),v19,by kernel_rfl,by kernel_rfl,⟨q0,q4,q10,q16,q5,q11,q17,(fun _=>⟨HH.out,rfl⟩),(fun e=>⟨rfl,(q20 e).2⟩),q19⟩⟩⟩
    ·have hb:b19=false:=hr
     have HC:=zh hC
     clear hC hi hr hlt BW
     replace hb:=zh hb
     refine stepJ 19 fun K hK=> ?_
     go_simp
     have hC2:=HC.out.grow ((Below.refl W.heap.size W).alloc (Nat.le_refl _) (.cells #[.slice none 0 0,.slice none 0 0,.slice none 0 0] 46))
     obtain⟨q0,q4,q10,q16,q5,q11,q17,q18,q20,q19⟩:=hC2
     have n20:b20=false:=by cases b20 with|false=>rfl|true=>exact absurd (q20 rfl).2 (by rw[hb.out];decide)
     subst n20
     exact hK.out _ _ ⟨q0,⟨b4,b5,b10,b11,b16,b17,b18,true,false,v4,v5,v10,v11,v16,v17,v18,(.pointer (some ⟨W.heap.size,0,none⟩)),by kernel_rfl,by kernel_rfl,⟨q0,q4,q10,q16,q5,q11,q17,q18,(fun e=>absurd e kD),(fun _=>⟨W.heap.size,rfl,sW,Blk.new _ _ _⟩)⟩⟩⟩
    ·have h18:b18=true:=z0T hi 18 _ rfl kR
     have h19:b19=true:=z0T hi 19 _ rfl kR
     have hb:b20=false:=hr
     subst h19 hb
     obtain⟨⟨h5,h11,h17⟩,e18⟩:=hC.f18 h18
     obtain⟨g,e19,hg,kg⟩:=hC.f19 rfl
     obtain⟨a5,c5,rfl⟩:=z0c (hC.f5 h5)
     obtain⟨a11,c11,rfl⟩:=z0c (hC.f11 h11)
     obtain⟨a17,c17,rfl⟩:=z0c (hC.f17 h17)
     subst e18 e19
     have kg:Blk W g #[.slice none 0 0,.slice none 0 0,.slice none 0 0] 46:=kg
     have HC:=zh hC
     clear hC hi hr hlt h5 h11 h17 BW
     refine stepJ 20 fun K hK=> ?_
     simp only[yA,yB,yC,Act.put,yD,yE,yF]
     rw[if_pos (by rfl)]
     refine z0v 46 (.tmp 25) (.tmp 136) rfl g #[(.slice a5 (C.ls.length+D.ls.length) c5),(.slice a11 (C.ss.length+D.ss.length) c11),(.slice a17 (C.x.ws.length+D.x.ws.length) c17)] rfl rfl 46 #[.slice none 0 0,.slice none 0 0,.slice none 0 0] kg kR rfl (by simp[Value.oneCell']) ?_
     intro W2 hp K2
     have hC2:=HC.out.put h18 hp hg kg K2.out
     exact hK.out _ _ ⟨hC2.below,⟨b4,b5,b10,b11,b16,b17,b18,true,true,v4,(.slice a5 (C.ls.length+D.ls.length) c5),v10,(.slice a11 (C.ss.length+D.ss.length) c11),v16,(.slice a17 (C.x.ws.length+D.x.ws.length) c17),(.agg #[(.slice a5 (C.ls.length+D.ls.length) c5),(.slice a11 (C.ss.length+D.ss.length) c11),(.slice a17 (C.x.ws.length+D.x.ws.length) c17)]),(.pointer (some ⟨g,0,none⟩)),by kernel_rfl,by kernel_rfl,hC2⟩⟩
   case last=>
    rintro l a' W ⟨b4,b5,b10,b11,b16,b17,b18,b19,b20,v4,v5,v10,v11,v16,v17,v18,v19,rfl,rfl,hC⟩ hall
    have h20:b20=true:=hall 20
    subst h20
    obtain⟨h18,h19⟩:=hC.f20 rfl
    obtain⟨⟨h5,h11,h17⟩,e18⟩:=hC.f18 h18
    obtain⟨g,e19,hg,kg⟩:=hC.f19 h19
    have kg:Blk W g #[v5,v11,v17] 46:=kg
    obtain⟨a5,c5,rfl⟩:=z0c (hC.f5 h5)
    obtain⟨a11,c11,rfl⟩:=z0c (hC.f11 h11)
    obtain⟨a17,c17,rfl⟩:=z0c (hC.f17 h17)
    have BW:=hC.below
    have KG:=zh kg
    have R5:=zh (z1o (hC.f5 h5) (fun u hu=>by rw[List.mem_append]at hu;exact hu.elim (z3K _ u) (z3K _ u)))
    have R11:=zh (z1o (hC.f11 h11) (fun u hu=>by rw[<-List.map_append]at hu;obtain⟨x,_,rfl⟩:=List.mem_map.1 hu;rfl))
    have R17:=zh (z1o (hC.f17 h17) (fun u hu=>by rw[List.mem_append]at hu;exact hu.elim (z3x _ u) (z3x _ u)))
    subst e18 e19
    have SH1:Hid (ShAt W (.slice a5 (C.ls.length+D.ls.length) c5) (.slice a11 (C.ss.length+D.ss.length) c11) (.slice a17 (C.x.ws.length+D.x.ws.length) c17) (C.ls++D.ls) (C.ss++D.ss) (C.x.ws++D.x.ws)):=zh (by
     refine⟨?_,RowAt.bytes ?_ OK3.out.2,?_⟩
     ·rw[List.length_append,show lnsC (C.ls++D.ls)=lnsC C.ls++lnsC D.ls from List.flatMap_append ..]
      exact R5.out
     ·rw[List.length_append,List.map_append]
      exact R11.out
     ·rw[List.length_append,show wrC (C.x.ws++D.x.ws)=wrC C.x.ws++wrC D.x.ws from z6E ..]
      exact R17.out)
    have SH2:Hid (ShAt W lv3 sv3 wv3 (C.ls++D.ls) (C.ss++D.ss) (C.x.ws++D.x.ws)):=zh ⟨RL3.out.below BW,RowAt.bytes (RS3.out.below BW) OK3.out.2,RW3.out.below BW⟩
    have HLL:Hid ((C.ls++D.ls).length<=1000000/\(C.x.ws++D.x.ws).length<=1000000):=zh (by
     have h:=HN6.out
     rw[List.length_append,List.length_append]
     omega)
    have KYW:=zh (KYx.out.below BW)
    have KZW:=zh (KZx.out.below BW)
    have KWW:=zh (KWx.out.below BW)
    have KXW:=zh (KXx.out.below BW)
    have KUW:=zh (KUx.out.below BW)
    have KVW:=zh (KVx.out.below BW)
    have KSW:=zh (KSx.out.below BW)
    have MYW:=zh (MY.out.below BW)
    have MZW:=zh (MZ.out.below BW)
    have MXW:=zh (MX.out.below BW)
    have MUW:=zh (MU.out.below BW)
    have SHA:=zh (SHa.out.below BW)
    have SHB:=zh (SHb.out.below BW)
    have HL1:Hid (C.ls.length<=1000000/\C.x.ws.length<=1000000):=zh (by
     have h:=HN6.out
     omega)
    have QW:=below_then Q6 BW
    clear hC hall h5 h11 h17 h18 h19 kg R5 R11 R17 KYx KZx KWx KXx KUx KVx MY MZ MX MU SHa SHb Q6 BW hg RL1 RL2 RL3 RS1 RS2 RS3 RW1 RW2 RW3 KSx KTx hS l10 l16
    simp only[yA,yB,yC,Act.put,yD,yE,yF]
    go_wp2_with (first|((with_reducible show wpList _ _ _ _ _ _);first|(refine lG 42 13 (by rfl) rfl (w6.heap.size) (0) 75 rfl 42 (machC U1 C.x.m) (machC U1 C.x.m) kB Tryz.underlying42 ?_)|(refine lG 42 16 (by rfl) rfl (y1.heap.size) (0) 75 rfl 42 (machC U4 C.x.m) (machC U4 C.x.m) kB Tryz.underlying42 ?_)))
    refine(z3B U1 U4 C.x.m W MXW.out MUW.out).mono ?_
    rintro e W1 ⟨rfl,hb1⟩
    have KG1:=zh (KG.out.below hb1)
    have KW1:=zh (KWW.out.below hb1)
    have KY1:=zh (KYW.out.below hb1)
    have KZ1:=zh (KZW.out.below hb1)
    have SH3:=zh (SH1.out.below hb1)
    have SH4:=zh (SH2.out.below hb1)
    have SA:=zh (SHA.out.below hb1)
    have SB:=zh (SHB.out.below hb1)
    have MY1:=zh (MYW.out.below hb1)
    have MZ1:=zh (MZW.out.below hb1)
    have Q1:=below_then QW hb1
    have d0:W1.cell? ⟨w6.heap.size+1,0,none⟩=some (.slice al1 C.ls.length cl1):=(KSW.out.below hb1).cell 0
    have d1:W1.cell? ⟨w6.heap.size+1,1,none⟩=some (.slice as1 C.ss.length cs1):=(KSW.out.below hb1).cell 1
    have d2:W1.cell? ⟨w6.heap.size+1,2,none⟩=some (.slice aw1 C.x.ws.length cw1):=(KSW.out.below hb1).cell 2
    have y0:W1.cell? ⟨y1.heap.size+1,0,none⟩=some lv4:=(KVW.out.below hb1).cell 0
    have y1':W1.cell? ⟨y1.heap.size+1,1,none⟩=some sv4:=(KVW.out.below hb1).cell 1
    have y2':W1.cell? ⟨y1.heap.size+1,2,none⟩=some wv4:=(KVW.out.below hb1).cell 2
    clear KG KWW SH1 SH2 QW hb1 MYW MZW KYW KZW KXW KUW KVW KSW SHA SHB MXW MUW
    go_wp2_with (first|((with_reducible show wpList _ _ _ _ _ _);first|(refine lG 42 13 (by rfl) rfl (w6.heap.size) (0) 75 rfl 42 (machC U1 C.x.m) (machC U1 C.x.m) kB Tryz.underlying42 ?_)|(refine lG 42 16 (by rfl) rfl (y1.heap.size) (0) 75 rfl 42 (machC U4 C.x.m) (machC U4 C.x.m) kB Tryz.underlying42 ?_)))
    refine(z1t _ _ _ _ _ _ _ _ _ W1 SA.out SB.out OK1.out.1 HL1.out.1 HL1.out.2).mono ?_
    rintro e W2 ⟨rfl,hb2⟩
    have KG2:=zh (KG1.out.below hb2)
    have KW2:=zh (KW1.out.below hb2)
    have KY2:=zh (KY1.out.below hb2)
    have KZ2:=zh (KZ1.out.below hb2)
    have SH5:=zh (SH3.out.below hb2)
    have SH6:=zh (SH4.out.below hb2)
    have MY2:=zh (MY1.out.below hb2)
    have MZ2:=zh (MZ1.out.below hb2)
    have Q2:=below_then Q1 hb2
    clear d0 d1 d2 y0 y1' y2' KG1 KW1 KY1 KZ1 SH3 SH4 SA SB MY1 MZ1 Q1 hb2 OK1 HL1
    go_wp2_with (first|((with_reducible show wpList _ _ _ _ _ _);first|(refine lG 42 19 (by rfl) rfl (x1.heap.size) (0) 75 rfl 42 (machC U2 D.x.m) (machC U2 D.x.m) kB Tryz.underlying42 ?_)|(refine lG 42 22 (by rfl) rfl (x4.heap.size) (0) 75 rfl 42 (machC U3 D.x.m) (machC U3 D.x.m) kB Tryz.underlying42 ?_)))
    refine(z3B U2 U3 D.x.m W2 MY2.out MZ2.out).mono ?_
    rintro e W3 ⟨rfl,hb3⟩
    have SH7:=zh (SH5.out.below hb3)
    have SH8:=zh (SH6.out.below hb3)
    have Q3:=below_then Q2 hb3
    have d0:W3.cell? ⟨g,0,none⟩=some (.slice a5 (C.ls.length+D.ls.length) c5):=(KG2.out.below hb3).cell 0
    have d1:W3.cell? ⟨g,1,none⟩=some (.slice a11 (C.ss.length+D.ss.length) c11):=(KG2.out.below hb3).cell 1
    have d2:W3.cell? ⟨g,2,none⟩=some (.slice a17 (C.x.ws.length+D.x.ws.length) c17):=(KG2.out.below hb3).cell 2
    have y0:W3.cell? ⟨x4.heap.size+1,0,none⟩=some lv3:=(KW2.out.below hb3).cell 0
    have y1':W3.cell? ⟨x4.heap.size+1,1,none⟩=some sv3:=(KW2.out.below hb3).cell 1
    have y2':W3.cell? ⟨x4.heap.size+1,2,none⟩=some wv3:=(KW2.out.below hb3).cell 2
    clear KG2 KW2 KY2 KZ2 SH5 SH6 MY2 MZ2 Q2 hb3
    go_wp2_with (first|((with_reducible show wpList _ _ _ _ _ _);first|(refine lG 42 19 (by rfl) rfl (x1.heap.size) (0) 75 rfl 42 (machC U2 D.x.m) (machC U2 D.x.m) kB Tryz.underlying42 ?_)|(refine lG 42 22 (by rfl) rfl (x4.heap.size) (0) 75 rfl 42 (machC U3 D.x.m) (machC U3 D.x.m) kB Tryz.underlying42 ?_)))
    refine(z1t _ _ _ _ _ _ _ _ _ W3 SH7.out SH8.out OK3.out.1 HLL.out.1 HLL.out.2).mono ?_
    rintro e W4 ⟨rfl,hb4⟩
    have Q4:=below_then Q3 hb4
    clear hb4
    go_wp2_with (first|((with_reducible show wpList _ _ _ _ _ _);first|(refine lG 42 19 (by rfl) rfl (x1.heap.size) (0) 75 rfl 42 (machC U2 D.x.m) (machC U2 D.x.m) kB Tryz.underlying42 ?_)|(refine lG 42 22 (by rfl) rfl (x4.heap.size) (0) 75 rfl 42 (machC U3 D.x.m) (machC U3 D.x.m) kB Tryz.underlying42 ?_))|go_in)
    go_ret
    exact⟨rfl,Q4⟩
theorem walk(V:Nat->Value)(m:Mach)(v:Value)(ins:List Inp)(a b:Int)(w:World)(hm:MV w V m)(hi:m.In)(hI:InpsAt w v ins)(ha:I64 a)(hb:I64 b)(hL:Lk w):Calls Tryz.prog 5 #[.agg (machC V m),v,.int .i64 a,.int .i64 b] w fun e w'=>e= .returned (.bool true)/\Below w.heap.size w w':=by
 by_cases h0:errL m ins a=0
 ·obtain⟨h1,h2,h3,h4,h5⟩:=z3R h0
  by_cases hb0:b<0
  ·exact no V m v ins a b w hm hi hI ha hb hL 1 kD ⟨h0,hb0⟩
  ·by_cases hb1:20000-a<b
   ·exact no V m v ins a b w hm hi hI ha hb hL 2 kD ⟨h0,hb0,hb1⟩
   ·by_cases h6:errL m ins (a+b)=0
    ·by_cases h7:19000<m.bm.fr
     ·exact no V m v ins a b w hm hi hI ha hb hL 4 kD ⟨h0,hb0,hb1,h6,h7⟩
     ·obtain⟨-,-,-,h8,h9⟩:=z3R h6
      obtain⟨a,rfl⟩:=Int.eq_ofNat_of_zero_le h3
      obtain⟨b,rfl⟩:=Int.eq_ofNat_of_zero_le (show 0<=b by omega)
      exact good V m v ins a b w hm hi hI hL h1 h2 kO kO h7
    ·exact no V m v ins a b w hm hi hI ha hb hL 3 kD ⟨h0,hb0,hb1,h6⟩
 ·exact no V m v ins a b w hm hi hI ha hb hL 0 kD h0
end Go.Proofs.YtkoocfcnfolkhaaGreatDoor.catchParts
