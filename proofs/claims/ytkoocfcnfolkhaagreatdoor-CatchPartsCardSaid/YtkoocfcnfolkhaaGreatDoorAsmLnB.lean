/- The assembler reads a line of a word, or of an order. Conditions: the library's variables hold what they were laid with; a line of at most 4000 bytes. -/
import Derived.Test.YtkoocfcnfolkhaaGreatDoorSq
import Derived.Test.YtkoocfcnfolkhaaGreatDoorSh
import Derived.Test.YtkoocfcnfolkhaaGreatDoorAsmLnA
import Derived.Deep.DeepCutAuto
set_option linter.unusedVariables false
set_option linter.unusedSimpArgs false
set_option maxHeartbeats 2000000
set_option maxRecDepth 100000
namespace Go.Proofs.YtkoocfcnfolkhaaGreatDoor
open Go.RowKit Go.Mq
def ArgR(w:World)(a:Option Addr)(args:List (List UInt8)):Prop:=0<args.length->∃g,a=some ⟨g,0,none⟩/\g<w.heap.size/\∀j,j<args.length->w.cell? ⟨g,j,none⟩=some (.string ⟨(args.getD j []).toArray⟩)
def ArgAt(w:World)(v:Value)(args:List (List UInt8)):Prop:=∃a c,v= .slice a args.length c/\ArgR w a args
theorem ArgR.below{w w':World}{a:Option Addr}{args:List (List UInt8)}(h:ArgR w a args)(hb:Below w.heap.size w w'):ArgR w' a args:=fun h0=>by
 obtain⟨g,ha,hg,hc⟩:=h h0
 exact⟨g,ha,Nat.lt_of_lt_of_le hg hb.size,fun j hj=>by rw[hb.cell (p:=⟨g,j,none⟩) hg];exact hc j hj⟩
def ArgN(w:World)(n:Nat)(a:Option Addr)(args:List (List UInt8)):Prop:=0<args.length->∃g,a=some ⟨g,0,none⟩/\g<n/\∀j,j<args.length->w.cell? ⟨g,j,none⟩=some (.string ⟨(args.getD j []).toArray⟩)
theorem ArgN.put{w w':World}{n:Nat}{a:Option Addr}{args:List (List UInt8)}(h:ArgN w n a args)(hp:∀k,k<n->w'.heap[k]? =w.heap[k]?):ArgN w' n a args:=fun h0=>by
 obtain⟨g,ha,hg,hc⟩:=h h0
 exact⟨g,ha,hg,fun j hj=>(by simp[World.cell?,hp g hg]:w'.cell? ⟨g,j,none⟩=w.cell? ⟨g,j,none⟩).trans (hc j hj)⟩
theorem ArgN.below{w w':World}{n:Nat}{a:Option Addr}{args:List (List UInt8)}(h:ArgN w n a args)(hb:Below w.heap.size w w')(hn:n<=w.heap.size):ArgN w' n a args:=h.put (fun k hk=>hb.block k kO)
theorem ArgN.setCell{w:World}{n o:Nat}{v:Value}{a:Option Addr}{args:List (List UInt8)}(h:ArgN w n a args):ArgN (w.setCell ⟨n,o,none⟩ v) n a args:=h.put (fun k hk=>Below.heap_setCell _ _ _ _ (show k≠n by omega))
theorem z6A(w:World)(xs:List (List UInt8))(t:TypeId):ArgAt (w.alloc (.cells (xs.map strV).toArray t)) (.slice (some ⟨w.heap.size,0,none⟩) xs.length xs.length) xs:=by
 refine⟨_,_,rfl,fun h0=>⟨_,rfl,(Blk.new w _ _).lt,fun j hj=> ?_⟩⟩
 rw[(Blk.new w _ _).cell j,List.getElem?_toArray,List.getElem?_map,List.getElem?_eq_getElem hj,List.getD_eq_getElem?_getD,List.getElem?_eq_getElem hj]
 rfl
theorem z8d{w w':World}{b o:Nat}(h:w'.heap[b]? =w.heap[b]?):w'.cell? ⟨b,o,none⟩=w.cell? ⟨b,o,none⟩:=by simp[World.cell?,h]
theorem z4t{w X:World}{g gm base:Nat}{b:Bd}(hB:BdAt w g gm base b)(hx:Below w.heap.size w X):∀v r,Blk X g #[v,.map (some gm),.int .i64 b.sz] 145->v.ownBlock=some r->r<w.heap.size:=by
 intro v r h1 h2
 obtain⟨⟨u,k1,k2⟩,_⟩:=hB
 have k3:=k1.below hx
 unfold Blk at h1 k3
 rw[h1]at k3
 injection k3 with k3
 injection k3 with k3
 simp at k3
 subst k3
 exact(k2.lt r h2).2
theorem BdAt.setAt{w:World}{g gm base p:Nat}{b:Bd}{x v:Value}(h:BdAt w g gm base b)(hp:Blk w p #[x] 47)(h1:p≠g):BdAt (w.setCell ⟨p,0,none⟩ v) g gm base b:=by
 obtain⟨⟨u,k1,k2⟩,⟨es,c,h3,he⟩,h4,h5⟩:=h
 unfold Blk at hp
 refine⟨⟨u,k1.setAt (fun e=>h1 e.symm),z0o k2 (fun r hr e=> ?_)⟩,⟨es,c,?_,he⟩,h4,h5⟩
 ·change r=p at e
  subst e
  rcases k2.2 with⟨rfl,_⟩|⟨q,cap,cur,rfl,_,hq,_⟩
  ·simp[Value.ownBlock]at hr
  ·have hr':q=r:=by simpa [Value.ownBlock]using hr
   subst hr'
   rw[hp]at hq
   injection hq with hq
   injection hq with _ hq
   revert hq
   decide
 ·rw[Below.heap_setCell _ _ _ _ (fun e=>by
   change gm=p at e
   subst e
   rw[hp]at h3
   cases h3)]
  exact h3
theorem z5y(g gm base:Nat)(hg:gm<g)(hb:g<base)(b:Bd)(i:Int)(l:List UInt8)(it:It)(k:Int)(w X:World)(hbw:base<=w.heap.size)(hE:lineF b i l=putI b it k)(hbX:Below w.heap.size w X)(KE:Blk X w.heap.size #[.int .i64 0] 47)(e:Ending)(w6:World)(h:PutEnd g gm base b it k w.heap.size X e w6):
  ((putI b it k).1=0/\e= .returned (.tuple #[])/\Blk w6 w.heap.size #[.int .i64 0] 47/\LineEnd g gm base b i l w (.returned (.int .i64 0)) (w6.setCell ⟨w.heap.size,0,none⟩ (.int .i64 0)))\/
  ((putI b it k).1≠0/\e=stopE (putI b it k).1/\Blk w6 w.heap.size #[.int .i64 0] 47/\∀w',Below w.heap.size w6 w'->LineEnd g gm base b i l w (.returned (.int .i64 (putI b it k).1)) w'):=by
 obtain⟨h1,h2,h3⟩:=h
 have KE6:Blk w6 w.heap.size #[.int .i64 0] 47:=by
  unfold Blk
  rw[h3 _ (Nat.le_refl _) KE.lt]
  exact KE
 have B6:Below gm w w6:=(hbX.mono kO).trans h2
 by_cases h0:(putI b it k).1=0
 ·rw[if_pos h0]at h1
  refine .inl ⟨h0,h1.1,KE6,?_,fun _=> ?_,Below.setCell B6 (by show gm<=w.heap.size;omega) _⟩
  ·rw[hE,h0]
  ·rw[hE]
   exact h1.2.setAt KE6 kO
 ·rw[if_neg h0]at h1
  exact .inr ⟨h0,h1,KE6,fun w' hb'=>z0E (by rw[hE]) h0 (B6.trans (hb'.mono kO))⟩
theorem z0aO:∀k:Nat,k<32->∀c∈prtL k,c=100\/c=115\/c=110\/c=119:=by decide+kernel
theorem z4u(s:List UInt8):∀(l:List Nat) (k:Nat),opGo s l=some k->k∈l/\k≠30
 |[],k,h=>by cases h
 |x::l,k,h=>by
  unfold opGo at h
  split at h
  ·next hx=>
   injection h with h
   subst h
   exact⟨by simp,hx.1⟩
  ·obtain⟨h1,h2⟩:=z4u s l k h
   exact⟨by simp[h1],h2⟩
theorem z8U{s:List UInt8}{k:Nat}(h:opF s=some k):k<32/\k≠30:=by
 obtain⟨h1,h2⟩:=z4u s _ k h
 exact⟨by simpa using h1,h2⟩
theorem z9T:∀k:Nat,k<32->(prtL k).length<=4:=by decide+kernel
theorem z7P(q:Fl)(pl:List UInt8)(args:List (List UInt8))(k:Nat)(h1:k<pl.length)(h2:k<args.length):fillA q (pl.drop k) (args.drop k)=match fill1 q pl[k] (args.getD k [])with
 |none=>none
 |some q'=>fillA q' (pl.drop (k+1)) (args.drop (k+1)):=by
 rw[List.drop_eq_getElem_cons h1,List.drop_eq_getElem_cons h2,List.getD_eq_getElem?_getD,List.getElem?_eq_getElem h2]
 rfl
theorem z0df{q:Fl}{a:List UInt8}(h:regF a=none):fill1 q 100 a=none:=by simp[fill1,h]
theorem z0bA{q:Fl}{a:List UInt8}{v:Int}(h:regF a=some v):fill1 q 100 a=some {q with o:={q.o with d:=v}}:=by simp[fill1,h]
theorem z0dd{q:Fl}{a:List UInt8}(h:regF a=none):fill1 q 115 a=none:=by simp[fill1,h]
theorem z0by{q:Fl}{a:List UInt8}{v:Int}(h:regF a=some v):fill1 q 115 a=some {q with o:={q.o with s:=v}}:=by simp[fill1,h]
theorem z0de{q:Fl}{a:List UInt8}(h:wholeZ a=none):fill1 q 110 a=none:=by simp[fill1,h]
theorem z0bz{q:Fl}{a:List UInt8}{v:Int}(h:wholeZ a=some v):fill1 q 110 a=some {q with o:={q.o with n:=v}}:=by simp[fill1,h]
theorem z0dc{q:Fl}{a:List UInt8}(h:isNm a=true):fill1 q 119 a=some {q with nm:=a}:=by simp[fill1,h]
theorem z0db{q:Fl}{a:List UInt8}(hn:isNm a=false)(h:wholeZ a=none):fill1 q 119 a=none:=by simp[fill1,h,hn]
theorem z0bx{q:Fl}{a:List UInt8}{v:Int}(hn:isNm a=false)(h:wholeZ a=some v):fill1 q 119 a=some {q with o:={q.o with w:=v}}:=by simp[fill1,h,hn]
theorem z0aU(g gm base:Nat)(hg:gm<g)(hb0:g<base)(b:Bd)(i:Int)(l:List UInt8)(hl:l.length<=4000)(h58:¬l.getLast? =some 58)(w:World)(hL:Lk w)(hB:BdAt w g gm base b)(hbw:base<=w.heap.size):
  Calls Tryz.prog 59 #[.pointer (some ⟨g,0,none⟩),.int .i64 i,.string ⟨l.toArray⟩] w (LineEnd g gm base b i l w):=by
 have S:=zh (z9B l hl h58)
 have C:=zh (cut32 l hl)
 have HL:=zh hL
 have HB:=zh hB
 have CL:=zh (z0bJ l)
 obtain⟨wd,hwd⟩:∃x,x=(Lib.cut l [32]).1:=⟨_,rfl⟩
 obtain⟨rs,hrs⟩:∃x,x=(Lib.cut l [32]).2.1:=⟨_,rfl⟩
 obtain⟨ok,hok⟩:∃x,x=(Lib.cut l [32]).2.2:=⟨_,rfl⟩
 rw[<-hwd,<-hrs]at CL
 rw[<-hwd,<-hrs,<-hok]at C
 have SP:=zh (z0cl rs (by have:=CL.out.2;omega))
 have AL:=zh (z9S rs)
 obtain⟨args,hargs⟩:∃x,x=argsF rs:=⟨_,rfl⟩
 rw[<-hargs]at SP AL
 have hmf:∀(fn:Fn) (first cap:Array Value) (w:World),(Instr.makeFunc fn first cap).run Tryz.prog w= .ok (.func fn first cap) w:=fun _ _ _ _=>rfl
 have HW:=zh (And.intro hwd (And.intro hrs hargs))
 have EO:Hid (lineF b i l=ordF b i wd args):=zh (by unfold lineF;rw[if_neg h58,hargs,hrs,hwd])
 have F:=zh z1x
 have NA:=zh z2y
 clear h58 hwd hrs hok hargs hL hB
 go_enter_defers Tryz.func59,Tryz.ntmps59
 go_wp2_with fail
 refine(S.out _).mono ?_
 rintro e w1 ⟨rfl,rfl⟩
 go_wp2_with fail
 refine(C.out _ (HL.out.below (below_alloc (Below.refl _ _) _))).mono ?_
 rintro e w1 ⟨rfl,hb1⟩
 have KE:=zh ((Blk.new w #[.int .i64 0] 47).below hb1)
 have BW:=zh (below_then (below_alloc (Below.refl _ _) _) hb1)
 clear hb1
 go_upto_if 61 with(fail)
 go_cut [14]from 60 to 64 (fun av wx=>ArgAt wx av args/\Below w1.heap.size w1 wx)
 case first=>
  have HE:Hid (rs.isEmpty=true->args=[]):=zh (fun h=>by rw[HW.out.2.2];unfold argsF;rw[if_pos (List.isEmpty_iff.1 h)])
  have HF:Hid (rs.isEmpty=false->rs≠[]):=zh (fun h e=>by rw[e]at h;cases h)
  obtain⟨em,hem⟩:∃e,e=rs.isEmpty:=⟨_,rfl⟩
  rw[<-hem]at HE HF⊢
  clear hem
  cases em
  ·have SP1:=zh (SP.out (HF.out rfl) w1 (HL.out.below BW.out))
   go_wp2_with fail
   refine(SP1.out).mono ?_
   rintro e w2 ⟨rfl,rfl⟩
   go_wp2_with fail
   go_meet
   exact⟨z6A _ _ _,below_alloc (Below.refl _ _) _⟩
  ·have hA:args=[]:=HE.out rfl
   replace hA:=zh hA
   go_wp2_with fail
   go_meet
   exact⟨⟨none,0,by rw[hA.out];rfl,fun h=>by rw[hA.out]at h;simp at h⟩,Below.refl _ _⟩
 case rest=>
  obtain⟨hA,hb⟩:=hcut
  obtain⟨ao,cp,rfl,hA⟩:=hA
  have AR:=zh hA
  have BX:=zh (below_then BW.out hb)
  have KX:=zh (KE.out.below hb)
  clear hA hb KE BW SP
  have hlw:w.heap.size<wc.heap.size:=KX.out.lt
  go_upto_region 16 with(first|((with_reducible show wpList _ _ _ _ _ _);refine sW 150 15 65 rfl rfl (wc.heap.size) #[.int .i64 i,.int .i64 0,.int .i64 0,.int .i64 0,.int .i64 0,.int .i64 0,.bool false,.string ⟨#[]⟩] rfl rfl #[.int .i64 0,.int .i64 0,.int .i64 0,.int .i64 0,.int .i64 0,.int .i64 0,.bool false,.string ⟨#[]⟩] kB ?_;intro w2 hp_w2 K_w2))
  have BY:=zh (below_put (below_alloc BX.out _) hp_w2 kO)
  have KY:=zh ((KX.out.alloc _).put hp_w2 kO)
  obtain⟨n,hn⟩:∃n,n=wc.heap.size:=⟨_,rfl⟩
  have AY:Hid (ArgN w2 n ao args):=zh (fun h0=>by
   obtain⟨q,q1,q2,q3⟩:=AR.out h0
   refine⟨q,q1,by rw[hn];exact q2,fun j hj=> ?_⟩
   rw[(below_put (below_alloc (Below.refl wc.heap.size wc) _) hp_w2 (Nat.le_refl _)).cell (p:=⟨q,j,none⟩) q2]
   exact q3 j hj)
  rw[<-hn]at K_w2 hlw⊢
  clear hp_w2 KX BX AR hn
  obtain⟨l2,c2,f2⟩:=K_w2.out.use
  have hl2:w.heap.size<w2.heap.size:=KY.out.lt
  by_cases hw:wd=[46,119,111,114,100]
  ·have q:(wd==[46,119,111,114,100])=true:=beq_iff_eq.2 hw
   have EW:Hid (lineF b i l=wordF b i args):=zh (by rw[EO.out];unfold ordF;rw[if_pos hw])
   have hgn:gm<=w.heap.size:=by omega
   clear hw EO
   by_cases ha:args.length=1
   ·obtain⟨a,rfl⟩:∃a,args=[a]:=by
     match args,ha with
     |[a],_=>exact⟨a,rfl⟩
    obtain⟨ga,rfl,hga,hca⟩:=AY.out kS
    have ca:w2.cell? ⟨ga,0,none⟩=some (.string ⟨a.toArray⟩):=hca 0 kS
    have AL1:Hid (a.length<=4000):=zh (by have:=AL.out a kS;have:=CL.out.2;omega)
    have hgl:ga<w2.heap.size:=by omega
    clear hca AY AL
    have hbY:=BY.out
    go_upto_region 20 with(fail)
    refine z0h (R:=fun W=>Below w.heap.size w W/\Hid (Blk W (w.heap.size) (#[.int .i64 0]) 47)/\Hid (Blk W (n) (#[.int .i64 i,.int .i64 0,.int .i64 0,.int .i64 0,.int .i64 0,.int .i64 0,.bool true,.string ⟨#[]⟩]) 150)/\Hid (W.cell? ⟨ga,0,none⟩=some (.string ⟨a.toArray⟩))) ⟨kL,zh kB,zh kB,zh ((z8d (Below.heap_setCell _ _ _ _ (show ga≠n by omega))).trans ca)⟩ ?_
    rintro w3 ⟨hbw3,Kw3_0,Kw3_1,CA⟩
    obtain⟨lw3_0,cw3_0,fw3_0⟩:=Kw3_0.out.use
    obtain⟨lw3_1,cw3_1,fw3_1⟩:=Kw3_1.out.use
    have ca3:=CA.out
    have hgl3:ga<w3.heap.size:=by have:=lw3_1;omega
    clear ca hgl c2 f2 l2 KY BY K_w2 hl2 hbY
    go_upto_if 76 with(go_at_call 86;refine(NA.out a _).mono ?_;rintro e w3 ⟨rfl,rfl⟩)
    go_cut []from 76 to 97 (fun wx=>∃it,Below w.heap.size w wx/\Blk wx w.heap.size #[.int .i64 0] 47/\Blk wx n (itC it).toArray 150/\wordF b i [a]=putI b it 1)
    case first=>
     have HN:Hid (isNm a=true->wordF b i [a]=putI b ⟨i,⟨0,0,0,0,0⟩,true,a⟩ 1):=zh (fun h=>by simp[wordF,h])
     have HM:Hid (isNm a=false->wholeZ a=none->wordF b i [a]=(1,b)):=zh (fun h h2=>by simp[wordF,h,h2])
     have HO:Hid (isNm a=false->∀z,wholeZ a=some z->(z<0\/65535<z->wordF b i [a]=(3,b))/\(¬(z<0\/65535<z)->wordF b i [a]=putI b ⟨i,⟨0,0,0,0,z⟩,true,[]⟩ 1)):=zh (fun h z h2=>⟨fun h3=>by simp only[wordF,h,h2,Bool.false_eq_true,if_false];rw[if_pos h3],fun h3=>by simp only[wordF,h,h2,Bool.false_eq_true,if_false];rw[if_neg h3]⟩)
     obtain⟨nm,hnm⟩:∃x,x=isNm a:=⟨_,rfl⟩
     rw[<-hnm]at HN HM HO⊢
     clear hnm
     cases nm
     ·cases hz:wholeZ a with
      |none=>
       have E:Hid ((lineF b i l).1=1):=zh (by rw[EW.out,HM.out rfl hz])
       have NU:=zh (z2R a AL1.out hz)
       clear hz
       go_wp2_with fail
       refine(NU.out _ (HL.out.below hbw3)).mono ?_
       rintro e w4 ⟨rfl,hb4⟩
       have K4:=zh (Kw3_0.out.below hb4)
       exact z0A _ w.heap.size 1 _ _ rfl K4.out (fun w' h1 h2 h3=>z0E E.out kD ((below_then hbw3 hb4).mono hgn |>.trans (h2.mono hgn)))
      |some z=>
       obtain⟨h3,h4⟩:=HO.out rfl z hz
       have NU:=zh (z2c a AL1.out z hz)
       clear hz
       go_wp2_with fail
       refine(NU.out _ (HL.out.below hbw3)).mono ?_
       rintro e w4 ⟨rfl,hb4⟩
       have Kw4_0:Hid (Blk w4 (w.heap.size) #[.int .i64 0] 47):=zh kB
       have Kw4_1:Hid (Blk w4 (n) #[.int .i64 i,.int .i64 0,.int .i64 0,.int .i64 0,.int .i64 0,.int .i64 0,.bool true,.string ⟨#[]⟩] 150):=zh kB
       clear Kw3_0 cw3_0 fw3_0 Kw3_1 cw3_1 fw3_1
       obtain⟨lw4_0,cw4_0,fw4_0⟩:=Kw4_0.out.use
       obtain⟨lw4_1,cw4_1,fw4_1⟩:=Kw4_1.out.use
       have hbw4:Below w.heap.size w w4:=below_then hbw3 hb4
       have hnl:w.heap.size<=n:=by omega
       clear hb4 NU
       go_upto_region 23 with(fail)
       refine z0h (R:=fun W=>Below w.heap.size w W/\Hid (Blk W (w.heap.size) (#[.int .i64 0]) 47)/\Hid (Blk W (n) (#[.int .i64 i,.int .i64 0,.int .i64 0,.int .i64 0,.int .i64 0,.int .i64 z,.bool true,.string ⟨#[]⟩]) 150)) ⟨kL,zh kB,zh kB⟩ ?_
       rintro w5 ⟨hbw5,Kw5_0,Kw5_1⟩
       clear Kw4_0 cw4_0 fw4_0 Kw4_1 cw4_1 fw4_1
       obtain⟨lw5_0,cw5_0,fw5_0⟩:=Kw5_0.out.use
       obtain⟨lw5_1,cw5_1,fw5_1⟩:=Kw5_1.out.use
       by_cases hz1:z<0\/65535<z
       ·have E:Hid ((lineF b i l).1=3):=zh (by rw[EW.out,h3 hz1])
        clear h3 h4
        rcases hz1 with hz1|hz1
        ·go_wp2_with fail
         refine(F.out _ _).mono ?_
         rintro e w6 ⟨rfl,rfl⟩
         exact z0A _ w.heap.size 3 _ _ rfl Kw5_0.out (fun w' h1 h2 h3=>z0E E.out kD ((hbw5.mono hgn).trans (h2.mono hgn)))
        ·have hz2:¬z<0:=by omega
         go_wp2_with fail
         refine(F.out _ _).mono ?_
         rintro e w6 ⟨rfl,rfl⟩
         exact z0A _ w.heap.size 3 _ _ rfl Kw5_0.out (fun w' h1 h2 h3=>z0E E.out kD ((hbw5.mono hgn).trans (h2.mono hgn)))
       ·have H1:=zh (h4 hz1)
        have hz2:0<=z:=by omega
        have hz3:z<=65535:=by omega
        clear hz1 h3 h4
        go_wp2_with fail
        go_meet
        exact⟨⟨i,⟨0,0,0,0,z⟩,true,[]⟩,hbw5,Kw5_0.out,Kw5_1.out,H1.out⟩
     ·have H1:=zh (HN.out rfl)
      go_wp2_with fail
      go_meet
      exact⟨⟨i,⟨0,0,0,0,0⟩,true,a⟩,Below.setCell hbw3 (by show w.heap.size<=n;omega) _,Kw3_0.out.setAt (by show w.heap.size≠n;omega),Blk.set Kw3_1.out rfl,H1.out⟩
    case rest=>
     obtain⟨it,hbX,KE,KI,hit⟩:=hcut
     have EP:Hid (lineF b i l=putI b it 1):=zh (EW.out.trans hit)
     have KE1:=zh KE
     have KI1:=zh KI
     clear KE KI hit EW
     go_wp2_with (first|((with_reducible show wpList _ _ _ _ _ _);refine lW 150 15 rfl rfl (n) rfl (itC it).toArray kB Tryz.underlying150 ?_))
     refine(z7h g gm base hg hb0 b it 1 kD kD w.heap.size _ (HB.out.below hbX) (z4t HB.out hbX) kO hbX.size (by have:=hbX.size;omega)).mono ?_
     intro e w6 hPE
     rcases z5y g gm base hg hb0 b i l it 1 w _ hbw EP.out hbX KE1.out e w6 hPE with⟨h0,rfl,K6,HF⟩|⟨h0,rfl,K6,HF⟩
     ·obtain⟨l6,c6,f6⟩:=K6.use
      have HG:=zh HF
      clear hPE HF h0
      go_wp2_with fail
      exact z3S _ w.heap.size 0 _ _ rfl (Blk.set K6 rfl) HG.out
     ·exact z0A _ w.heap.size _ _ _ rfl K6 (fun w' h1 h2 h3=>HF w' h2)
   ·have q2:((args.length:Int) !=1)=true:=by simp;omega
    have E:Hid ((lineF b i l).1=4):=zh (by
     rw[EW.out]
     unfold wordF
     split
     ·exact absurd rfl ha
     ·rfl)
    clear ha
    go_wp2_with fail
    refine(F.out _ _).mono ?_
    rintro e w3 ⟨rfl,rfl⟩
    exact z0A _ w.heap.size 4 _ _ rfl KY.out (fun w' h1 h2 h3=>z0E E.out kD ((BY.out.mono hgn).trans (h2.mono hgn)))
  ·have q:(wd==[46,119,111,114,100])=false:=beq_eq_false_iff_ne.2 hw
   have EW:Hid (lineF b i l=match opF wd with|none=>(5,b)|some k=>orderF b i k args):=zh (by rw[EO.out];unfold ordF;rw[if_neg hw];cases opF wd<;>rfl)
   have hgn:gm<=w.heap.size:=by omega
   have OP:=zh (z0cv wd)
   clear hw EO
   cases hop:opF wd with
   |none=>
    have E:Hid ((lineF b i l).1=5):=zh (by rw[EW.out,hop])
    go_wp2_with fail
    refine(OP.out _).mono ?_
    rintro e w3 ⟨he,hb3⟩
    rw[hop]at he
    subst he
    have K3:=zh (KY.out.below hb3)
    clear hop OP
    exact z0A _ w.heap.size 5 _ _ rfl K3.out (fun w' h1 h2 h3=>z0E E.out kD (((below_then BY.out hb3).mono hgn).trans (h2.mono hgn)))
   |some K=>
    obtain⟨hk,h30⟩:=z8U hop
    have E1:Hid (lineF b i l=orderF b i K args):=zh (by rw[EW.out,hop])
    go_wp2_with fail
    refine(OP.out _).mono ?_
    rintro e w3 ⟨he,hb3⟩
    rw[hop]at he
    subst he
    have hbY:=BY.out
    have Kw3_0:Hid (Blk w3 (w.heap.size) #[.int .i64 0] 47):=zh kB
    have Kw3_1:Hid (Blk w3 (n) #[.int .i64 i,.int .i64 0,.int .i64 0,.int .i64 0,.int .i64 0,.int .i64 0,.bool false,.string ⟨#[]⟩] 150):=zh kB
    obtain⟨lw3_0,cw3_0,fw3_0⟩:=Kw3_0.out.use
    obtain⟨lw3_1,cw3_1,fw3_1⟩:=Kw3_1.out.use
    have A3:Hid (ArgN w3 n ao args):=zh (AY.out.below hb3 kO)
    have hbw3:Below w.heap.size w w3:=below_then hbY hb3
    have PT:=zh (z0aQ K hk)
    have PA:=zh (z0aO K hk)
    have FK:Hid (lineF b i l=if args.length≠(prtL K).length then(4,b)else match fillA ⟨⟨K,0,0,0,0⟩,[]⟩ (prtL K) args with
     |none=>(1,b)
     |some q=>if checkO q.o≠0 then(checkO q.o,b)else putI b ⟨i,q.o,false,q.nm⟩ (if hasW K then 2 else 1)):=zh E1.out
    obtain⟨pl,hpl⟩:∃x,x=prtL K:=⟨_,rfl⟩
    have HPL:=zh hpl
    rw[<-hpl]at PT PA FK
    clear hop OP E1 EW AY c2 f2 l2 KY BY K_w2 hl2 hbY hb3 hpl
    go_upto_region 28 with(fail)
    refine z0h (R:=fun W=>Below w.heap.size w W/\Hid (Blk W (w.heap.size) (#[.int .i64 0]) 47)/\Hid (Blk W (n) (#[.int .i64 i,.int .i64 K,.int .i64 0,.int .i64 0,.int .i64 0,.int .i64 0,.bool false,.string ⟨#[]⟩]) 150)/\Hid (ArgN W n ao args)) ⟨kL,zh kB,zh kB,zh A3.out.setCell⟩ ?_
    rintro w4 ⟨hbw4,Kw4_0,Kw4_1,A4⟩
    clear Kw3_0 cw3_0 fw3_0 Kw3_1 cw3_1 fw3_1
    obtain⟨lw4_0,cw4_0,fw4_0⟩:=Kw4_0.out.use
    obtain⟨lw4_1,cw4_1,fw4_1⟩:=Kw4_1.out.use
    clear A3 hbw3
    -- the loop: written by mklnb.py
    by_cases hln:args.length=pl.length
    ·have q3:((args.length:Int) !=pl.length)=false:=by simp;omega
     have FQ:Hid (lineF b i l=match fillA ⟨⟨K,0,0,0,0⟩,[]⟩ pl args with
      |none=>(1,b)
      |some q=>if checkO q.o≠0 then(checkO q.o,b)else putI b ⟨i,q.o,false,q.nm⟩ (if hasW K then 2 else 1)):=zh (by rw[FK.out,if_neg (by simp[hln])])
     have AL1:Hid (∀a∈args,a.length<=4000):=zh (fun a ha=>by have:=AL.out a ha;have:=CL.out.2;omega)
     have HLN:=zh hln
     have hlE:w.heap.size<n:=hlw
     have hln4:args.length<=9223372036854775807:=by
      have:=PA.out
      have h4:=z9T K hk
      rw[<-HPL.out]at h4
      omega
     clear FK AL hln S C CL HW lw4_0 lw4_1
     go_wp2_with fail
     refine(PT.out _).mono ?_
     rintro e w4 ⟨rfl,rfl⟩
     go_wp2
     clear q3
     go_loopw [117] (fun j wr=>∃(k:Nat) (q:Fl),k<=args.length/\j= .int .i64 k/\Hid (q.o.op=K/\fillA ⟨⟨K,0,0,0,0⟩,[]⟩ pl args=fillA q (pl.drop k) (args.drop k))/\Hid (Blk wr w.heap.size #[.int .i64 0] 47/\Blk wr n #[.int .i64 i,.int .i64 q.o.op,.int .i64 q.o.d,.int .i64 q.o.s,.int .i64 q.o.n,.int .i64 q.o.w,.bool false,.string ⟨q.nm.toArray⟩] 150/\ArgN wr n ao args)/\Below w.heap.size w wr) (fun j _=>args.length-(intOf j).toNat)
     case atStart=>exact⟨0,⟨⟨K,0,0,0,0⟩,[]⟩,by omega,rfl,zh ⟨rfl,rfl⟩,zh ⟨Kw4_0.out,Kw4_1.out,A4.out⟩,hbw4⟩
     case round=>
      obtain⟨k,q,hk1,rfl,hq,hx,hb⟩:=hrel
      obtain⟨ln,cn,fn⟩:=hx.out.2.1.use
      have HLr:=zh (HL.out.below hb)
      by_cases hkn:k<args.length
      ·have hki:(k:Int)<args.length:=by omega
       have hkp:k<pl.length:=by have:=HLN.out;omega
       obtain⟨ga,rfl,hga,hca⟩:=hx.out.2.2 kO
       have ca:=hca k hkn
       have hgl:ga<wr.heap.size:=by omega
       obtain⟨a,ha⟩:∃a,a=args.getD k []:=⟨_,rfl⟩
       have ST:=zh (z7P q pl args k hkp hkn)
       have AK:Hid (a.length<=4000):=zh (AL1.out a (by rw[ha,List.getD_eq_getElem?_getD,List.getElem?_eq_getElem hkn];exact List.getElem_mem _))
       obtain⟨c,hc⟩:∃c,c=pl[k]:=⟨_,rfl⟩
       have hcc:=PA.out c (by rw[hc];exact List.getElem_mem _)
       have ec:∀h,((⟨pl.toArray⟩:ByteArray)[k]'h)=c:=fun h=>by rw[hc];rfl
       rw[<-hc,<-ha]at ST
       rw[<-ha]at ca
       have KE:=zh hx.out.1
       have KN:=zh hx.out.2.1
       have AN:=zh hx.out.2.2
       clear hca hc ha hx
       rcases hcc with rfl|rfl|rfl|rfl
       ·have e1:((100:UInt8).toNat:Int)=100:=rfl
        cases hv:regF a with
        |none=>
         have E:Hid ((lineF b i l).1=1):=zh (by rw[FQ.out,hq.out.2,ST.out,z0df hv])
         have R:=zh (z2M a hv)
         clear hv
         go_wp2_with fail
         refine(R.out _).mono ?_
         rintro e w5 ⟨rfl,rfl⟩
         exact z0A _ w.heap.size 1 _ _ rfl KE.out (fun w' h1 h2 h3=>z0E E.out kD ((hb.mono hgn).trans (h2.mono hgn)))
        |some v=>
         have E:Hid (fillA ⟨⟨K,0,0,0,0⟩,[]⟩ pl args=fillA {q with o:={q.o with d:=v}} (pl.drop (k+1)) (args.drop (k+1))):=zh (by rw[hq.out.2,ST.out,z0bA hv])
         have R:=zh (z2o a v hv)
         clear hv
         go_wp2_with fail
         refine(R.out _).mono ?_
         rintro e w5 ⟨rfl,rfl⟩
         go_wp2_with fail
         go_roundw
         case rel=>exact⟨k+1,{q with o:={q.o with d:=v}},by omega,by go_num,zh ⟨hq.out.1,E.out⟩,zh ⟨KE.out.setAt (by show w.heap.size≠n;omega),Blk.set KN.out rfl,AN.out.setCell⟩,Below.setCell hb (by show w.heap.size<=n;omega) _⟩
         case measure=>simp[intOf];omega
       ·have e1:((115:UInt8).toNat:Int)=115:=rfl
        cases hv:regF a with
        |none=>
         have E:Hid ((lineF b i l).1=1):=zh (by rw[FQ.out,hq.out.2,ST.out,z0dd hv])
         have R:=zh (z2M a hv)
         clear hv
         go_wp2_with fail
         refine(R.out _).mono ?_
         rintro e w5 ⟨rfl,rfl⟩
         exact z0A _ w.heap.size 1 _ _ rfl KE.out (fun w' h1 h2 h3=>z0E E.out kD ((hb.mono hgn).trans (h2.mono hgn)))
        |some v=>
         have E:Hid (fillA ⟨⟨K,0,0,0,0⟩,[]⟩ pl args=fillA {q with o:={q.o with s:=v}} (pl.drop (k+1)) (args.drop (k+1))):=zh (by rw[hq.out.2,ST.out,z0by hv])
         have R:=zh (z2o a v hv)
         clear hv
         go_wp2_with fail
         refine(R.out _).mono ?_
         rintro e w5 ⟨rfl,rfl⟩
         go_wp2_with fail
         go_roundw
         case rel=>exact⟨k+1,{q with o:={q.o with s:=v}},by omega,by go_num,zh ⟨hq.out.1,E.out⟩,zh ⟨KE.out.setAt (by show w.heap.size≠n;omega),Blk.set KN.out rfl,AN.out.setCell⟩,Below.setCell hb (by show w.heap.size<=n;omega) _⟩
         case measure=>simp[intOf];omega
       ·have e1:((110:UInt8).toNat:Int)=110:=rfl
        cases hv:wholeZ a with
        |none=>
         have E:Hid ((lineF b i l).1=1):=zh (by rw[FQ.out,hq.out.2,ST.out,z0de hv])
         have R:=zh (z2R a AK.out hv)
         clear hv
         go_wp2_with fail
         refine(R.out _ HLr.out).mono ?_
         rintro e w5 ⟨rfl,hb5⟩
         exact z0A _ w.heap.size 1 _ _ rfl (KE.out.below hb5) (fun w' h1 h2 h3=>z0E E.out kD (((below_then hb hb5).mono hgn).trans (h2.mono hgn)))
        |some v=>
         have E:Hid (fillA ⟨⟨K,0,0,0,0⟩,[]⟩ pl args=fillA {q with o:={q.o with n:=v}} (pl.drop (k+1)) (args.drop (k+1))):=zh (by rw[hq.out.2,ST.out,z0bz hv])
         have R:=zh (z2c a AK.out v hv)
         clear hv
         go_wp2_with fail
         refine(R.out _ HLr.out).mono ?_
         rintro e w5 ⟨rfl,hb5⟩
         have KE5:=zh (KE.out.below hb5)
         have KN5:=zh (KN.out.below hb5)
         have AN5:=zh (AN.out.below hb5 kO)
         have hbw5:Below w.heap.size w w5:=below_then hb hb5
         obtain⟨ln5,cn5,fn5⟩:=KN5.out.use
         clear hb5
         go_wp2_with fail
         go_roundw
         case rel=>exact⟨k+1,{q with o:={q.o with n:=v}},by omega,by go_num,zh ⟨hq.out.1,E.out⟩,zh ⟨KE5.out.setAt (by show w.heap.size≠n;omega),Blk.set KN5.out rfl,AN5.out.setCell⟩,Below.setCell hbw5 (by show w.heap.size<=n;omega) _⟩
         case measure=>simp[intOf];omega
       ·have e1:((119:UInt8).toNat:Int)=119:=rfl
        have NAa:=zh (NA.out a)
        cases hn:isNm a with
        |true=>
         rw[hn]at NAa
         have E:Hid (fillA ⟨⟨K,0,0,0,0⟩,[]⟩ pl args=fillA {q with nm:=a} (pl.drop (k+1)) (args.drop (k+1))):=zh (by rw[hq.out.2,ST.out,z0dc hn])
         clear hn
         go_wp2_with fail
         refine(NAa.out _).mono ?_
         rintro e w5 ⟨rfl,rfl⟩
         go_wp2_with fail
         go_roundw
         case rel=>exact⟨k+1,{q with nm:=a},by omega,by go_num,zh ⟨hq.out.1,E.out⟩,zh ⟨KE.out.setAt (by show w.heap.size≠n;omega),Blk.set KN.out rfl,AN.out.setCell⟩,Below.setCell hb (by show w.heap.size<=n;omega) _⟩
         case measure=>simp[intOf];omega
        |false=>
         rw[hn]at NAa
         cases hv:wholeZ a with
         |none=>
          have E:Hid ((lineF b i l).1=1):=zh (by rw[FQ.out,hq.out.2,ST.out,z0db hn hv])
          have R:=zh (z2R a AK.out hv)
          clear hv hn
          go_wp2_with fail
          refine(NAa.out _).mono ?_
          rintro e w6 ⟨rfl,rfl⟩
          go_wp2_with fail
          refine(R.out _ HLr.out).mono ?_
          rintro e w5 ⟨rfl,hb5⟩
          exact z0A _ w.heap.size 1 _ _ rfl (KE.out.below hb5) (fun w' h1 h2 h3=>z0E E.out kD (((below_then hb hb5).mono hgn).trans (h2.mono hgn)))
         |some v=>
          have E:Hid (fillA ⟨⟨K,0,0,0,0⟩,[]⟩ pl args=fillA {q with o:={q.o with w:=v}} (pl.drop (k+1)) (args.drop (k+1))):=zh (by rw[hq.out.2,ST.out,z0bx hn hv])
          have R:=zh (z2c a AK.out v hv)
          clear hv hn
          go_wp2_with fail
          refine(NAa.out _).mono ?_
          rintro e w6 ⟨rfl,rfl⟩
          go_wp2_with fail
          refine(R.out _ HLr.out).mono ?_
          rintro e w5 ⟨rfl,hb5⟩
          have KE5:=zh (KE.out.below hb5)
          have KN5:=zh (KN.out.below hb5)
          have AN5:=zh (AN.out.below hb5 kO)
          have hbw5:Below w.heap.size w w5:=below_then hb hb5
          obtain⟨ln5,cn5,fn5⟩:=KN5.out.use
          clear hb5
          go_wp2_with fail
          go_roundw
          case rel=>exact⟨k+1,{q with o:={q.o with w:=v}},by omega,by go_num,zh ⟨hq.out.1,E.out⟩,zh ⟨KE5.out.setAt (by show w.heap.size≠n;omega),Blk.set KN5.out rfl,AN5.out.setCell⟩,Below.setCell hbw5 (by show w.heap.size<=n;omega) _⟩
          case measure=>simp[intOf];omega
      ·have hkl:k=args.length:=by omega
       subst hkl
       have FE:Hid (fillA ⟨⟨K,0,0,0,0⟩,[]⟩ pl args=some q):=zh (by
        rw[hq.out.2,List.drop_of_length_le (by have:=HLN.out;omega),List.drop_of_length_le (Nat.le_refl _)]
        rfl)
       have FF:Hid (lineF b i l=if checkO q.o≠0 then(checkO q.o,b)else putI b ⟨i,q.o,false,q.nm⟩ (if hasW K then 2 else 1)):=zh (by rw[FQ.out,FE.out])
       have KE:=zh hx.out.1
       have KN:=zh hx.out.2.1
       have CH:=zh (z2b q.o.op q.o.d q.o.s q.o.n q.o.w)
       have CY:Hid (∀w,Calls Tryz.prog 94 #[.int .i64 q.o.op] w fun e w'=>e= .returned (.tuple #[.int .i64 (cycO K),.int .i64 (if hasW K then 2 else 1),.int .i64 0])/\Below w.heap.size w w'):=zh (by rw[hq.out.1];exact z0bG K kO kO kO)
       obtain⟨wn,hwn⟩:∃x:Int,x=if hasW K then 2 else 1:=⟨_,rfl⟩
       have hw1:1<=wn/\wn<=2:=by rw[hwn];split<;>omega
       rw[<-hwn]at CY FF
       obtain⟨kc,hkc⟩:∃x,x=checkO q.o:=⟨_,rfl⟩
       rw[show checkO ⟨q.o.op,q.o.d,q.o.s,q.o.n,q.o.w⟩=kc from hkc.symm]at CH
       rw[<-hkc]at FF
       obtain⟨cy,hcy⟩:∃x,x=cycO K:=⟨_,rfl⟩
       rw[<-hcy]at CY
       clear hx FE FQ hwn hkc hcy hq HLr
       by_cases hk0:kc=0
       ·subst hk0
        have EP:Hid (lineF b i l=putI b ⟨i,q.o,false,q.nm⟩ wn):=zh (by rw[FF.out,if_neg kS])
        go_wp2_with (first|((with_reducible show wpList _ _ _ _ _ _);refine lA 148 154 rfl rfl (n) (1) 5 rfl 150 #[.int .i64 i,.int .i64 q.o.op,.int .i64 q.o.d,.int .i64 q.o.s,.int .i64 q.o.n,.int .i64 q.o.w,.bool false,.string ⟨q.nm.toArray⟩] #[.int .i64 q.o.op,.int .i64 q.o.d,.int .i64 q.o.s,.int .i64 q.o.n,.int .i64 q.o.w] kB Tryz.underlying148 ?_))
        refine(CH.out _).mono ?_
        rintro e w6 ⟨rfl,hb6⟩
        have Kw6_0:Hid (Blk w6 (w.heap.size) #[.int .i64 0] 47):=zh kB
        have Kw6_1:Hid (Blk w6 (n) #[.int .i64 i,.int .i64 q.o.op,.int .i64 q.o.d,.int .i64 q.o.s,.int .i64 q.o.n,.int .i64 q.o.w,.bool false,.string ⟨q.nm.toArray⟩] 150):=zh kB
        clear Kw4_0 cw4_0 fw4_0 Kw4_1 cw4_1 fw4_1
        obtain⟨lw6_0,cw6_0,fw6_0⟩:=Kw6_0.out.use
        obtain⟨lw6_1,cw6_1,fw6_1⟩:=Kw6_1.out.use
        have hbw6:Below w.heap.size w w6:=below_then hb hb6
        clear hb6 hb cn fn ln KE KN
        go_wp2_with fail
        refine(CY.out _).mono ?_
        rintro e w7 ⟨rfl,hb7⟩
        have Kw7_0:Hid (Blk w7 (w.heap.size) #[.int .i64 0] 47):=zh kB
        have Kw7_1:Hid (Blk w7 (n) #[.int .i64 i,.int .i64 q.o.op,.int .i64 q.o.d,.int .i64 q.o.s,.int .i64 q.o.n,.int .i64 q.o.w,.bool false,.string ⟨q.nm.toArray⟩] 150):=zh kB
        clear Kw6_0 cw6_0 fw6_0 Kw6_1 cw6_1 fw6_1
        obtain⟨lw7_0,cw7_0,fw7_0⟩:=Kw7_0.out.use
        obtain⟨lw7_1,cw7_1,fw7_1⟩:=Kw7_1.out.use
        have hbw7:Below w.heap.size w w7:=below_then hbw6 hb7
        clear hb7 hbw6
        go_wp2_with (first|((with_reducible show wpList _ _ _ _ _ _);refine lW 150 170 rfl rfl (n) rfl #[.int .i64 i,.int .i64 q.o.op,.int .i64 q.o.d,.int .i64 q.o.s,.int .i64 q.o.n,.int .i64 q.o.w,.bool false,.string ⟨q.nm.toArray⟩] kB Tryz.underlying150 ?_))
        refine(z7h g gm base hg hb0 b ⟨i,q.o,false,q.nm⟩ wn hw1.1 hw1.2 w.heap.size _ (HB.out.below hbw7) (z4t HB.out hbw7) kO hbw7.size (by have:=hbw7.size;omega)).mono ?_
        intro e w8 hPE
        rcases z5y g gm base hg hb0 b i l ⟨i,q.o,false,q.nm⟩ wn w _ hbw EP.out hbw7 Kw7_0.out e w8 hPE with⟨h0,rfl,K8,HF⟩|⟨h0,rfl,K8,HF⟩
        ·obtain⟨l8,c8,f8⟩:=K8.use
         have HG:=zh HF
         clear hPE HF h0
         go_wp2_with fail
         exact z3S _ w.heap.size 0 _ _ rfl (Blk.set K8 rfl) HG.out
        ·exact z0A _ w.heap.size _ _ _ rfl K8 (fun w' h1 h2 h3=>HF w' h2)
       ·have q4:(kc !=0)=true:=by simpa using hk0
        have E:Hid ((lineF b i l).1=kc):=zh (by rw[FF.out,if_pos hk0])
        replace hk0:=zh hk0
        go_wp2_with (first|((with_reducible show wpList _ _ _ _ _ _);refine lA 148 154 rfl rfl (n) (1) 5 rfl 150 #[.int .i64 i,.int .i64 q.o.op,.int .i64 q.o.d,.int .i64 q.o.s,.int .i64 q.o.n,.int .i64 q.o.w,.bool false,.string ⟨q.nm.toArray⟩] #[.int .i64 q.o.op,.int .i64 q.o.d,.int .i64 q.o.s,.int .i64 q.o.n,.int .i64 q.o.w] kB Tryz.underlying148 ?_))
        refine(CH.out _).mono ?_
        rintro e w6 ⟨rfl,hb6⟩
        go_wp2_with fail
        refine(F.out _ _).mono ?_
        rintro e w7 ⟨rfl,rfl⟩
        exact z0A _ w.heap.size _ _ _ rfl (KE.out.below hb6) (fun w' h1 h2 h3=>z0E E.out hk0.out (((below_then hb hb6).mono hgn).trans (h2.mono hgn)))
    ·have q3:((args.length:Int) !=pl.length)=true:=by simp;omega
     have E:Hid ((lineF b i l).1=4):=zh (by rw[FK.out,if_pos hln])
     clear hln
     go_wp2_with fail
     refine(PT.out _).mono ?_
     rintro e w4 ⟨rfl,rfl⟩
     go_wp2_with fail
     refine(F.out _ _).mono ?_
     rintro e w5 ⟨rfl,rfl⟩
     exact z0A _ w.heap.size 4 _ _ rfl Kw4_0.out (fun w' h1 h2 h3=>z0E E.out kD ((hbw4.mono hgn).trans (h2.mono hgn)))
end Go.Proofs.YtkoocfcnfolkhaaGreatDoor
