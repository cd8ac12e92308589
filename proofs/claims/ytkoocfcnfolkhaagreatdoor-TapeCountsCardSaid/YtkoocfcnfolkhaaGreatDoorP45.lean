/- A text cut at a byte: what the library's splitting and cutting make of it. Conditions: none; no program in sight. -/
import Derived.Test.YtkoocfcnfolkhaaGreatDoorSq
import Derived.Test.YtkoocfcnfolkhaaGreatDoorP20
import Derived.Lib.IndexLaws
import Derived.Lib.IndexBytes
import Derived.Lib.CountLaws
import Derived.Test.YtkoocfcnfolkhaaGreatDoorP40
import Derived.Test.YtkoocfcnfolkhaaGreatDoorShelf
import Derived.Lib.ParseIntBTie
import Derived.Lib.AtoiErrMem
import Derived.Test.YtkoocfcnfolkhaaGreatDoorRegF
import Derived.Lib.ItoaLen
import Derived.Test.YtkoocfcnfolkhaaGreatDoorSh
import Derived.Test.YtkoocfcnfolkhaaGreatDoorP43
import Derived.Test.YtkoocfcnfolkhaaGreatDoorLawBtn
import Derived.Test.YtkoocfcnfolkhaaGreatDoorP33
import Derived.Test.YtkoocfcnfolkhaaGreatDoorP29
import Derived.Lib.AtoiAllCases
set_option linter.unusedVariables false
set_option linter.unusedSimpArgs false
set_option maxHeartbeats 1000000
set_option maxRecDepth 100000
namespace Go.Mq
open Go
theorem z0Q(s:List UInt8)(c:UInt8):(Lib.index s [c]= -1/\c∉s)\/∃(a b:List UInt8),s=a++c::b/\c∉a/\Lib.index s [c]=a.length:=by
 rw[Lib.index_one]
 rcases h:decide (Lib.indexByte s c= -1)with _|_
 ·have hn:=of_decide_eq_false h
  have hg:=Lib.indexByte_ge s c
  obtain⟨o,ho⟩:∃o:Nat,Lib.indexByte s c=o:=⟨(Lib.indexByte s c).toNat,by omega⟩
  obtain⟨h1,h2⟩:=Lib.indexByte_some ho
  obtain⟨hlt,he⟩:=List.getElem?_eq_some_iff.1 h1
  refine .inr ⟨s.take o,s.drop (o+1),?_,fun hm=> ?_,?_⟩
  ·rw[<-he,<-List.drop_eq_getElem_cons hlt,List.take_append_drop]
  ·obtain⟨k,hk,e⟩:=List.mem_iff_getElem.1 hm
   rw[List.length_take]at hk
   rw[List.getElem_take]at e
   exact h2 k kO (by rw[List.getElem?_eq_getElem kO,e])
  ·rw[ho,List.length_take];omega
 ·have hn:=of_decide_eq_true h
  refine .inl ⟨hn,fun hm=> ?_⟩
  obtain⟨k,hk,e⟩:=List.mem_iff_getElem.1 hm
  exact Lib.indexByte_none hn k (by rw[List.getElem?_eq_getElem hk,e])
theorem z2l(c:UInt8):∀(n:Nat) (s:List UInt8),s.length<=n->Lib.splitK [c] 0 (Lib.count s [c]) s=sepBy c s
 |n,s,hn=>by
  rcases z0Q s c with⟨h1,h2⟩|⟨a,b,rfl,h2,h3⟩
  ·rw[Lib.count_miss h1,z1I c s h2]
   rfl
  ·rw[Lib.count_hit kS h3,Nat.add_comm 1,Lib.splitK,if_neg (by rw[h3];intro e;have:=beq_iff_eq.1 e;omega),z1w c a b h2,h3]
   simp only[Int.toNat_natCast,List.length_singleton,Nat.add_zero]
   have e1:(a++c::b).take a.length=a:=by simp
   have e2:(a++c::b).drop (a.length+1)=b:=by simp
   rw[e1,e2]
   cases n with
   |zero=>simp at hn
   |succ n=>rw[z2l c n b (by simp at hn;omega)]
theorem z5G(c:UInt8)(s:List UInt8):Lib.splitK [c] 0 (Lib.count s [c]) s=sepBy c s:=z2l c _ s (Nat.le_refl _)
theorem z7R(c:UInt8)(s:List UInt8)(h:c∉s):Lib.cut s [c]=(s,[],false):=by
 rcases z0Q s c with⟨h1,h2⟩|⟨a,b,rfl,h2,h3⟩
 ·unfold Lib.cut
  rw[if_neg (by rw[h1];omega)]
 ·exact absurd kS h
theorem z9C(c:UInt8)(a b:List UInt8)(h:c∉a):Lib.cut (a++c::b) [c]=(a,b,true):=by
 rcases z0Q (a++c::b) c with⟨h1,h2⟩|⟨a',b',e,h2,h3⟩
 ·exact absurd kS h2
 ·have ha:a'=a/\b'=b:=by
   clear h3
   induction a generalizing a' with
   |nil=>cases a' with
    |nil=>simp at e;exact⟨rfl,e.symm⟩
    |cons x t=>simp at e;exact absurd (by simp[e.1]) h2
   |cons y t ih=>cases a' with
    |nil=>simp at e;exact absurd (by simp[e.1]) h
    |cons x t'=>
     simp only[List.cons_append,List.cons.injEq]at e
     obtain⟨r1,r2⟩:=ih (fun hm=>h (by simp[hm])) t' e.2 (fun hm=>h2 (by simp[hm]))
     exact⟨by rw[r1,e.1],r2⟩
  obtain⟨rfl,rfl⟩:=ha
  unfold Lib.cut
  rw[h3,if_pos kO]
  simp
end Go.Mq
namespace Go.Proofs.YtkoocfcnfolkhaaGreatDoor
open Go.RowKit Go.Mq
def gMax:Nat:=0
abbrev Lk(w:World):Prop:=Lw Tryz.prog 0 w
theorem z5r(w:World)(k:Nat)(os:Array Obj):Below w.heap.size w (Sort.grow (w.drewN k) os):=
 ⟨rfl,rfl,rfl,by simp[Sort.grow],fun i hi=>by simp[Sort.grow,Array.getElem?_append_left,hi]⟩
theorem z1c(n:Int)(hn:I64 n)(w:World)(hL:Lk w):Calls Tryz.prog 55 #[.int .i64 n] w fun e w'=>e= .returned (.string ⟨(Lib.itoa n).toArray⟩)/\Below w.heap.size w w':=by
 refine(Tryz.strconv_Itoa n hn.1 hn.2 w hL.pow).mono ?_
 rintro e w' ⟨rfl,k,os,rfl⟩
 exact⟨rfl,z5r w k os⟩
theorem z8e(s:ByteArray)(hs:s.size<=281474976710656)(v:Int)(h:Lib.atoiAll s.data.toList= .ok v)(w:World):Calls Tryz.prog 53 #[.string s] w fun e w'=>e= .returned (.tuple #[.int .i64 v,.nilIface])/\Below w.heap.size w w':=by
 refine(Tryz.strconv_Atoi_ok s kO v h w).mono ?_
 rintro e w' ⟨rfl,hw⟩
 refine⟨rfl,?_⟩
 rcases hw with rfl|⟨t,rfl⟩
 ·exact Below.refl _ _
 ·exact Lib.bytesWorld_below _ _ _
theorem z9P(s:ByteArray)(hs:s.size<=281474976710656)(h:∀v,Lib.atoiAll s.data.toList≠ .ok v)(w:World)(hL:Lk w):Calls Tryz.prog 53 #[.string s] w fun e w'=>(∃(n:Int) (N:Nat),e= .returned (.tuple #[.int .i64 n,.iface 217 (.pointer (some ⟨N,0,none⟩))]))/\Below w.heap.size w w':=by
 obtain⟨t2,p2,h2⟩:=hL.syn
 obtain⟨t3,p3,h3⟩:=hL.rng
 cases hq:Lib.atoiAll s.data.toList with
 |ok v=>exact absurd hq (h v)
 |range=>
  refine(Tryz.strconv_Atoi_range_var s hs hq t3 p3 w h3).mono ?_
  rintro e w' ⟨N,rfl,-,-,hb⟩
  exact⟨⟨_,N,rfl⟩,hb⟩
 |_=>
  refine(Tryz.strconv_Atoi_syntax_var s hs hq t2 p2 w h2).mono ?_
  rintro e w' ⟨N,rfl,-,-,hb⟩
  exact⟨⟨_,N,rfl⟩,hb⟩
def strV(l:List UInt8):Value:= .string ⟨l.toArray⟩
theorem z2H(s:ByteArray)(c:UInt8):(Lib.splitB ⟨#[c]⟩ 0 (Lib.countB s ⟨#[c]⟩) s).map Value.string=(sepBy c s.data.toList).map strV:=by
 have h:=Lib.splitB_data ⟨#[c]⟩ 0 (Lib.countB s ⟨#[c]⟩) s
 have h2:Lib.splitK [c] 0 (Lib.countB s ⟨#[c]⟩) s.data.toList=sepBy c s.data.toList:=z5G c _
 rw[show(⟨#[c]⟩:ByteArray).data.toList=[c]from rfl,h2]at h
 rw[<-h,List.map_map]
 refine List.map_congr_left fun x _=> ?_
 show Value.string x=Value.string ⟨x.data.toList.toArray⟩
 rw[Array.toArray_toList]
theorem z5F(s:ByteArray)(hs:s.size<4294967281)(c:UInt8)(w:World)(hL:Lk w):Calls Tryz.prog 52 #[.string s,.string ⟨#[c]⟩] w fun e w'=>
  e= .returned (.slice (some ⟨w.heap.size,0,none⟩) (sepBy c s.data.toList).length (sepBy c s.data.toList).length)/\w'=w.alloc (.cells ((sepBy c s.data.toList).map strV).toArray 9):=by
 obtain⟨m,hm⟩:=hL.mx
 refine(Tryz.strings_Split s ⟨#[c]⟩ m w hs hm (Nat.le_refl 1)).mono ?_
 rintro e w' ⟨rfl,rfl⟩
 have hl:=congrArg List.length (z2H s c)
 rw[List.length_map,List.length_map,Lib.splitB_all ⟨#[c]⟩ (Nat.le_refl 1) 0 _ s rfl]at hl
 rw[<-hl,z2H]
 exact⟨rfl,rfl⟩
theorem z6A(s:ByteArray)(hs:s.size<4294967281)(c:UInt8)(w:World)(hL:Lk w):Calls Tryz.prog 51 #[.string s,.string ⟨#[c]⟩] w fun e w'=>
  e= .returned (.tuple #[strV (Lib.cut s.data.toList [c]).1,strV (Lib.cut s.data.toList [c]).2.1,.bool (Lib.cut s.data.toList [c]).2.2])/\Below w.heap.size w w':=by
 obtain⟨m,hm⟩:=hL.mx
 refine(Tryz.strings_Cut s ⟨#[c]⟩ m w hs hm).mono ?_
 rintro e w' ⟨rfl,n,rfl⟩
 exact⟨rfl,((Drew.refl w).drewN n).below _⟩
end Go.Proofs.YtkoocfcnfolkhaaGreatDoor
namespace Go.Mq
open Go.RowKit
theorem z2O{X Y:World}{base:Nat}{e:TypeId}{size:Nat}{v:Value}{n:Nat}{xs:List Value}(h:X.ownsRowF base e size v n xs)(hb:Below X.heap.size X Y):Y.ownsRowF base e size v n xs:=by
 refine⟨h.1,?_⟩
 rcases h.2 with hn|⟨g,cap,cur,fz,rfl,hbg,hgg,rest⟩
 ·exact .inl hn
 ·exact .inr ⟨g,cap,cur,fz,rfl,hbg,by rw[hb.block g (Array.getElem?_eq_some_iff.1 hgg).1];exact hgg,rest⟩
theorem z1D{T e:TypeId}{B b:Nat}{bs:List Value}{w w':World}(h:Lib.IsBuilderF T e B b bs w)(hb:Below w.heap.size w w'):Lib.IsBuilderF T e B b bs w':=by
 rcases h with⟨h1,v,h2,h3,h4⟩|⟨h1,v,h2,h3,h4⟩
 ·exact .inl ⟨h1,v,(hb.block b (Array.getElem?_eq_some_iff.1 h2).1).trans h2,z2O h3 hb,h4⟩
 ·exact .inr ⟨h1,v,(hb.block b (Array.getElem?_eq_some_iff.1 h2).1).trans h2,z2O h3 hb,h4⟩
theorem Blk.othersKept{e t:TypeId}{b g:Nat}{w w':World}{cs:Array Value}(h:Blk w g cs t)(hk:Lib.OthersKept e (some b) w w')(hg:g≠b)(ht:t≠e):Blk w' g cs t:=
 hk g _ h (fun q=>hg (Option.some.inj q)) (fun c fz q=>ht (by injection q))
theorem z3V(l:List UInt8):Lib.strCells ⟨l.toArray⟩=Lib.byteCells l:=by simp[Lib.strCells,Lib.byteCells]
theorem z4a{xs:List Inp}{k:Nat}(h:k<xs.length):printP (xs.take (k+1))=printP (xs.take k)++lineP (xs.getD k Inp0):=by
 rw[List.take_add_one,List.getElem?_eq_getElem h,List.getD_eq_getElem?_getD,List.getElem?_eq_getElem h]
 unfold printP
 rw[List.flatMap_append]
 simp only[Option.toList_some,List.flatMap_cons,List.flatMap_nil,List.append_nil,Option.getD_some]
end Go.Mq
namespace Go.Proofs.YtkoocfcnfolkhaaGreatDoor
open Go.RowKit Go.Mq
theorem z7G(y:Inp):(⟨(Lib.itoa y.ck).toArray⟩:ByteArray)++⟨#[32]⟩++⟨(Lib.itoa y.pd).toArray⟩++⟨#[32]⟩++⟨(btn y.dn.toNat).toArray⟩++⟨#[10]⟩=⟨(lineP y).toArray⟩:=by
 have e32:(⟨#[32]⟩:ByteArray)=⟨([32]:List UInt8).toArray⟩:=rfl
 have e10:(⟨#[10]⟩:ByteArray)=⟨([10]:List UInt8).toArray⟩:=rfl
 rw[e32,e10,z2k,z2k,z2k,z2k,z2k]
 rfl
theorem z5T(v:Value)(xs:List Inp)(w:World)(hL:Lk w)(h:InpsAt w v xs)(hz:chkI xs 0=0):
  Calls Tryz.prog 22 #[v] w fun e w'=>e= .returned (.tuple #[.string ⟨(printP xs).toArray⟩,.int .i64 0])/\Below w.heap.size w w':=by
 have CI:=zh (z0V v xs 0 w h (by unfold I64;omega))
 rw[hz]at CI
 have hlen:xs.length<=40:=by unfold chkI at hz;split at hz<;>omega
 obtain⟨a,cap,rfl,h1,h2,h4,h5⟩:=h
 have H5:=zh h5
 have H4:=zh h4
 clear hz h4 h5
 have HL:=zh hL
 clear hL
 go_enter Tryz.func22,Tryz.ntmps22
 go_wp2_with fail
 refine(CI.out).mono ?_
 rintro e w1 ⟨rfl,hb1⟩
 have hs1:=hb1.size
 go_wp2
 go_loopw [15] (fun i wr=>∃k:Nat,k<=xs.length/\i= .int .i64 k/\Hid (Lib.IsBuilderF 138 5 w1.heap.size w1.heap.size (Lib.byteCells (printP (xs.take k))) wr/\(printP (xs.take k)).length<=k*60)/\Below w1.heap.size w1 wr) (fun i _=>xs.length-(intOf i).toNat)
 case atStart=>exact⟨0,by omega,rfl,zh ⟨Lib.IsBuilderF.of (Lib.fresh_isBuilder _ _ _),by simp[printP]⟩,kL⟩
 case round=>
  obtain⟨k,hk,rfl,hx,hb⟩:=hrel
  have hbw:Below w.heap.size w wr:=hb1.trans (hb.mono hs1)
  have hsr:=hb.size
  by_cases hkn:k<xs.length
  ·obtain⟨b,off,rfl,hbl,hc⟩:=H5.out kO
   have hck:=hc k hkn
   obtain⟨c0,c1,c2⟩:=hck
   replace c0:=(hbw.cell (p:=⟨b,_,none⟩) hbl).trans c0
   replace c1:=(hbw.cell (p:=⟨b,_,none⟩) hbl).trans c1
   replace c2:=(hbw.cell (p:=⟨b,_,none⟩) hbl).trans c2
   have hki:(k:Int)<xs.length:=by omega
   have PT:=zh (z4a hkn)
   have OK:=zh (H4.out (xs.getD k Inp0) (by rw[List.getD_eq_getElem?_getD,List.getElem?_eq_getElem hkn];exact List.getElem_mem hkn))
   obtain⟨y,ey⟩:∃y,y=xs.getD k Inp0:=⟨_,rfl⟩
   rw[<-ey]at c0 c1 c2 OK PT
   replace ey:=zh ey
   clear hc
   have hlt:w1.heap.size<wr.heap.size:=by rcases hx.out.1 with h|h<;>exact h.lt
   have HLr:=zh (HL.out.below hbw)
   go_wp2
   refine z0g (R:=fun W=>Below w1.heap.size w1 W/\Hid (Blk W (wr.heap.size) (#[.int .i64 y.ck,.int .i64 y.pd,.int .u8 y.dn]) 63)/\Hid (Below wr.heap.size wr W)) ⟨kL,zh kB,zh (below_alloc (Below.refl _ _) _)⟩ ?_
   rintro w2 ⟨hbw2,Kw2_0,BR⟩
   obtain⟨lw2_0,cw2_0,fw2_0⟩:=Kw2_0.out.use
   have HB:=zh (z1D hx.out.1 BR.out.drew)
   have HL2:=zh (HLr.out.below BR.out.drew)
   have K2:=zh Kw2_0.out.drew
   have LS:=zh (z7G y)
   have l1:=Lib.itoa_length_le y.ck OK.out.1.1 OK.out.1.2
   have l2:=Lib.itoa_length_le y.pd OK.out.2.1.1 OK.out.2.1.2
   have l3:(btn y.dn.toNat).length=8:=by simp[btn]
   have n1:¬(9223372036854775807<(Lib.itoa y.ck).length+1):=by omega
   have n2:¬(9223372036854775807<(Lib.itoa y.ck).length+1+(Lib.itoa y.pd).length):=by omega
   have n3:¬(9223372036854775807<(Lib.itoa y.ck).length+1+(Lib.itoa y.pd).length+1):=by omega
   have n4:¬(9223372036854775807<(Lib.itoa y.ck).length+1+(Lib.itoa y.pd).length+1+8):=by omega
   have n5:¬(9223372036854775807<(Lib.itoa y.ck).length+1+(Lib.itoa y.pd).length+1+8+1):=by omega
   have LN:Hid ((lineP y).length<=60):=zh (by
    have l1:=Lib.itoa_length_le y.ck OK.out.1.1 OK.out.1.2
    have l2:=Lib.itoa_length_le y.pd OK.out.2.1.1 OK.out.2.1.2
    simp only[lineP,List.length_append,List.length_cons,List.length_nil,btn,List.length_map,List.length_range]
    omega)
   refine z0h (fun k W=>(k=1->W.cell? ⟨wr.heap.size,0,none⟩=some (.int .i64 y.ck))/\(k=5->W.cell? ⟨wr.heap.size,1,none⟩=some (.int .i64 y.pd))/\(k=10->W.cell? ⟨wr.heap.size,2,none⟩=some (.int .u8 y.dn))) [0,1,4,5,9,10,3,7,8,12,13] kR ?_
   refine tF 0 ⟨nD,nD,nD⟩ ?_
   refine tG 1 rfl (by intro w hF;have hF2:=hF.1 rfl;clear hF;go_simp;try with_reducible rfl) ⟨(fun _=>K2.out.cell 0),nD,nD⟩ ?_
   refine tF 4 ⟨nD,nD,nD⟩ ?_
   refine tG 5 rfl (by intro w hF;have hF2:=hF.2.1 rfl;clear hF;go_simp;try with_reducible rfl) ⟨nD,(fun _=>K2.out.cell 1),nD⟩ ?_
   refine tF 9 ⟨nD,nD,nD⟩ ?_
   refine tG 10 rfl (by intro w hF;have hF2:=hF.2.2 rfl;clear hF;go_simp;try with_reducible rfl) ⟨nD,nD,(fun _=>K2.out.cell 2)⟩ ?_
   refine rF 2 fun K hK=> ?_
   go_simp
   refine(z1c y.ck OK.out.1 _ HL2.out).mono ?_
   rintro e w3 ⟨rfl,hb3⟩
   try go_wp2_with fail
   refine hK.out _ _ (Sat.all kR (fun k=>⟨(fun _=>(K2.out.below hb3).cell 0),(fun _=>(K2.out.below hb3).cell 1),(fun _=>(K2.out.below hb3).cell 2)⟩)) ?_
   clear hK K
   try simp only[yA,yB,yC,Act.put,yD,yE,yF]
   have K3:=zh (K2.out.below hb3)
   refine tF 3 ⟨nD,nD,nD⟩ ?_
   try simp only[yA,yB,yC,Act.put,yD,yE,yF]
   refine rF 6 fun K hK=> ?_
   go_simp
   refine(z1c y.pd OK.out.2.1 _ (HL2.out.below hb3)).mono ?_
   rintro e w4 ⟨rfl,hb4⟩
   try go_wp2_with fail
   refine hK.out _ _ (Sat.all kR (fun k=>⟨(fun _=>(K3.out.below hb4).cell 0),(fun _=>(K3.out.below hb4).cell 1),(fun _=>(K3.out.below hb4).cell 2)⟩)) ?_
   clear hK K
   try simp only[yA,yB,yC,Act.put,yD,yE,yF]
   have K4:=zh (K3.out.below hb4)
   refine tF 7 ⟨nD,nD,nD⟩ ?_
   try simp only[yA,yB,yC,Act.put,yD,yE,yF]
   refine tF 8 ⟨nD,nD,nD⟩ ?_
   refine rF 11 fun K hK=> ?_
   go_simp
   refine(z4n y.dn OK.out.2.2 w4).mono ?_
   rintro e w5 ⟨rfl,hb5⟩
   try go_wp2_with fail
   refine hK.out _ _ (Sat.all kR (fun k=>⟨(fun _=>(K4.out.below hb5).cell 0),(fun _=>(K4.out.below hb5).cell 1),(fun _=>(K4.out.below hb5).cell 2)⟩)) ?_
   clear hK K
   try simp only[yA,yB,yC,Act.put,yD,yE,yF]
   have K5:=zh (K4.out.below hb5);obtain⟨HB5,SZ5,BB5⟩:Hid (Lib.IsBuilderF 138 5 w1.heap.size w1.heap.size (Lib.byteCells (printP (List.take k xs))) w5)/\Hid (w1.heap.size<=w5.heap.size)/\Hid (Below w1.heap.size w1 w5):=(have s2:=hbw2.size;have s3:=hb3.size;have s4:=hb4.size;have bb:=((hbw2.drew.trans (hb3.mono s2)).trans (hb4.mono (Nat.le_trans s2 s3))).trans (hb5.mono (Nat.le_trans (Nat.le_trans s2 s3) s4));⟨zh (z1D (z1D (z1D HB.out hb3) hb4) hb5),zh bb.size,zh bb⟩)
   refine tF 12 ⟨nD,nD,nD⟩ ?_
   refine tF 13 ⟨nD,nD,nD⟩ ?_
   refine rF 14 fun K hK=> ?_
   go_simp
   refine(Tryz.Builder_WriteString_k _ _ _ _ _ HB5.out (by rw[LS.out,Lib.byteCells_length];have q1:=hx.out.2;have q2:=LN.out;show _+(lineP y).toArray.size<=_;rw[List.size_toArray];omega) SZ5.out).mono ?_
   rintro e w6 ⟨rfl,hb6,hb66,hk6⟩
   try go_wp2_with fail
   refine hK.out _ _ (Sat.all kR (fun k=>⟨(fun _=>(K5.out.othersKept hk6 kO kD).cell 0),(fun _=>(K5.out.othersKept hk6 kO kD).cell 1),(fun _=>(K5.out.othersKept hk6 kO kD).cell 2)⟩)) ?_
   clear hK K
   try simp only[yA,yB,yC,Act.put,yD,yE,yF]
   refine z0f kR ?_ _
   have E6:Hid (Lib.IsBuilderF 138 5 w1.heap.size w1.heap.size (Lib.byteCells (printP (List.take (k+1) xs))) w6/\(printP (xs.take (k+1))).length<=(k+1)*60):=zh (by
    refine⟨?_,by rw[PT.out,List.length_append];have q1:=hx.out.2;have q2:=LN.out;omega⟩
    rw[PT.out,Lib.byteCells_append,<-z3V (lineP y),<-LS.out]
    exact Or.inr hb6)
   have E7:Below w1.heap.size w1 w6:=BB5.out.trans hb66
   clear n1 n2 n3 n4 n5
   go_wp2
   go_roundw
   case rel=>exact⟨k+1,by omega,by go_num,E6,E7⟩
   case measure=>simp[intOf];omega
  ·have hk':k=xs.length:=by omega
   subst hk'
   go_wp2_with fail
   refine(Tryz.Builder_String_any_k _ _ (printP xs) _ (by have:=hx.out.1;rwa[List.take_length]at this) hsr).mono ?_
   rintro e w2 ⟨rfl,-,hb2,-⟩
   have hbb:Below w.heap.size w w2:=hbw.trans (hb2.mono hs1)
   go_wp2
   go_ret2
   exact⟨rfl,hbb⟩
end Go.Proofs.YtkoocfcnfolkhaaGreatDoor
namespace Go.Mq
open Go Go.RowKit
theorem z3G(i:Nat)(acc:List Inp):parseGo i acc (sepBy 10 [])= .inr acc:=by simp[sepBy,parseGo]
theorem z5g(i:Nat)(acc:List Inp)(s:List UInt8)(h0:s≠[])(h:(10:UInt8)∉s):parseGo i acc (sepBy 10 s)= .inl i:=by
 rw[z1I 10 s h,parseGo,if_neg h0]
theorem z0F(i:Nat)(acc:List Inp)(a b:List UInt8)(h:(10:UInt8)∉a)(hi:item a=none):parseGo i acc (sepBy 10 (a++10::b))= .inl i:=by
 rw[z1w 10 a b h]
 cases hq:sepBy 10 b with
 |nil=>exact absurd hq (z3b 10 b)
 |cons u r=>rw[parseGo,hi]
theorem z2N(i:Nat)(acc:List Inp)(a b:List UInt8)(h:(10:UInt8)∉a)(x:Inp)(hi:item a=some x):parseGo i acc (sepBy 10 (a++10::b))=parseGo (i+1) (acc++[x]) (sepBy 10 b):=by
 rw[z1w 10 a b h]
 cases hq:sepBy 10 b with
 |nil=>exact absurd hq (z3b 10 b)
 |cons u r=>rw[parseGo,hi]
def inpCells(l:List Inp):List Value:=l.flatMap fun x=>[.int .i64 x.ck,.int .i64 x.pd,.int .u8 x.dn]
theorem z2y:∀(l:List Inp) (i:Nat),i<l.length->(inpCells l)[i*3]? =some (.int .i64 (l.getD i Inp0).ck)/\(inpCells l)[i*3+1]? =some (.int .i64 (l.getD i Inp0).pd)/\(inpCells l)[i*3+2]? =some (.int .u8 (l.getD i Inp0).dn)
 |[],i,h=>absurd h (Nat.not_lt_zero _)
 |x::t,0,_=>⟨rfl,rfl,rfl⟩
 |x::t,i+1,h=>by
  obtain⟨h1,h2,h3⟩:=z2y t i (by simpa using h)
  have e:∀j,(inpCells (x::t))[(i+1)*3+j]? =(inpCells t)[i*3+j]? :=fun j=>by
   show(([.int .i64 x.ck,.int .i64 x.pd,.int .u8 x.dn]:List Value)++inpCells t)[(i+1)*3+j]? =_
   rw[List.getElem?_append_right (by simp;omega)]
   congr 1
   simp
   omega
  exact⟨(e 0).trans h1,(e 1).trans h2,(e 2).trans h3⟩
theorem z4F{w:World}{base:Nat}{e:TypeId}{v:Value}{xs:List Inp}(h:w.ownsRow base e 3 v xs.length (inpCells xs))(hok:∀x∈xs,x.Ok):InpsAt w v xs:=by
 rcases h.2 with⟨rfl,hn⟩|⟨g,cap,cur,rfl,hbg,hgg,h1,h2,h3,h4⟩
 ·refine⟨none,0,by rw[hn],by omega,by simp[maxLen],hok,fun h0=>by omega⟩
 ·refine⟨some ⟨g,0,none⟩,cap,rfl,h1,h2,hok,fun h0=>⟨g,0,rfl,(Array.getElem?_eq_some_iff.1 hgg).1,fun i hi=> ?_⟩⟩
  obtain⟨c0,c1,c2⟩:=z2y xs i hi
  have k0:=h.cells (g:=g) rfl (i*3) _ c0
  have k1:=h.cells (g:=g) rfl (i*3+1) _ c1
  have k2:=h.cells (g:=g) rfl (i*3+2) _ c2
  rw[Addr.add_lit]at k0 k1 k2
  exact⟨k0,by rw[Nat.add_assoc];exact k1,by rw[Nat.add_assoc];exact k2⟩
theorem z4s{l:List UInt8}{v:Int}(h:Lib.atoiAll l= .ok v):I64 v:=by
 have:=Lib.atoiAll_bounds h
 unfold I64
 omega
end Go.Mq
