/- The assembler reads a line that names a place. Conditions: the library's variables hold what they were laid with; a line of at most 4000 bytes. -/
import Derived.Test.YtkoocfcnfolkhaaGreatDoorSq
import Derived.Test.YtkoocfcnfolkhaaGreatDoorSh
import Derived.Test.YtkoocfcnfolkhaaGreatDoorP34
set_option linter.unusedVariables false
set_option linter.unusedSimpArgs false
set_option maxHeartbeats 2000000
set_option maxRecDepth 100000
namespace Go.Proofs.YtkoocfcnfolkhaaGreatDoor
open Go.RowKit Go.Mq
def LineEnd(g gm base:Nat)(b:Bd)(i:Int)(l:List UInt8)(w:World)(e:Ending)(w':World):Prop:=
 e= .returned (.int .i64 (lineF b i l).1)/\((lineF b i l).1=0->BdAt w' g gm base (lineF b i l).2)/\Below gm w w'
theorem z5t(p:Nat)(k:Int)(tmps:Array Value)(W:World)(h6:tmps.getD 6 undef= .pointer (some ⟨p,0,none⟩))(hB:Blk W p #[.int .i64 k] 47):(results Tryz.f59 tmps).run Tryz.prog W= .ok (.int .i64 k) W:=by
 have hc:=hB.cell 0
 have h6':tmps[6]?.getD undef= .pointer (some ⟨p,0,none⟩):=by simpa using h6
 simp[results,Tryz.results59,go_sem,h6',hc]
theorem z0A(R:Ending->World->Prop)(p:Nat)(k:Int)(tmps:Array Value)(W:World)(h6:tmps.getD 6 undef= .pointer (some ⟨p,0,none⟩))(hB:Blk W p #[.int .i64 0] 47)
  (H:∀w',Blk w' p #[.int .i64 k] 47->Below p W w'->(∀i,i≠p->i<W.heap.size->w'.heap[i]? =W.heap[i]?)->R (.returned (.int .i64 k)) w'):
  bodyPostD Tryz.prog Tryz.f59 R (Exit.panic [{v:= .iface 177 (.agg #[.int .i64 k]),recovered:=false}]) {tmps:=tmps,defers:=[{target:=Target.fn (Fn.func 84) #[Value.pointer (some ⟨p,0,none⟩)],args:= #[]}]} W:=by
 refine leaves_cons (f:=84) (args:= #[.pointer (some ⟨p,0,none⟩)]) kS (by simp[go_sem]) ?_
 refine(z8e p k [] W hB).mono ?_
 rintro e u' w'' ⟨rfl,rfl,h1,h2,h3⟩
 exact⟨.int .i64 k,z5t p k tmps w'' h6 h1,H w'' h1 h2 h3⟩
theorem z3S(R:Ending->World->Prop)(p:Nat)(k:Int)(tmps:Array Value)(W:World)(h6:tmps.getD 6 undef= .pointer (some ⟨p,0,none⟩))(hB:Blk W p #[.int .i64 k] 47)(H:R (.returned (.int .i64 k)) W):
  bodyPostD Tryz.prog Tryz.f59 R Exit.ret {tmps:=tmps,defers:=[{target:=Target.fn (Fn.func 84) #[Value.pointer (some ⟨p,0,none⟩)],args:= #[]}]} W:=by
 refine leaves_cons (f:=84) (args:= #[.pointer (some ⟨p,0,none⟩)]) kS (by simp[go_sem]) ?_
 refine(z6q p W).mono ?_
 rintro e u' w'' ⟨rfl,rfl,rfl⟩
 exact⟨.int .i64 k,z5t p k tmps _ h6 hB,H⟩
def noPan(Q:Exit->Act->World->Prop):Exit->Act->World->Prop
 | .panic _,_,_=>False
 |e,a,w=>Q e a w
theorem z8r{P:Program}{c:Code}{Q:Exit->Act->World->Prop}{a:Act}{w:World}(h:c.wp P (noPan Q) a w):c.wp P Q a w:=fun b k cs=>by
 obtain⟨e,a',w',q,r⟩:=h b k cs
 refine⟨e,a',w',?_,r⟩
 cases e<;>first|exact q|exact False.elim q
theorem z6l{Q:Exit->Act->World->Prop}{a:Act}{w:World}(h:Q .normal a w):noPan Q .normal a w:=h
theorem z0E{g gm base:Nat}{b:Bd}{i:Int}{l:List UInt8}{w w':World}{k:Int}(hk:(lineF b i l).1=k)(h0:k≠0)(hb:Below gm w w'):LineEnd g gm base b i l w (.returned (.int .i64 k)) w':=
 ⟨by rw[hk],fun h=>absurd (hk.symm.trans h) h0,hb⟩
theorem z3v{w w':World}{o:Obj}{gm:Nat}(h:Below w.heap.size (w.alloc o) w')(hg:gm<=w.heap.size):Below gm w w':=
 ((Below.alloc (Below.refl _ _) (Nat.le_refl _) o).trans h).mono hg
theorem lab_F(b:Bd)(i:Int)(l:List UInt8)(h58:l.getLast? =some 58):lineF b i l=if isNm l.dropLast=false then(1,b)else if(findN b.nms l.dropLast).isSome then(6,b)else(0,{b with nms:=b.nms++[(l.dropLast,b.sz)]}):=by
 unfold lineF
 rw[if_pos h58]
theorem z0bm(g gm base:Nat)(hg:gm<g)(hb:g<base)(b:Bd)(i:Int)(l:List UInt8)(hl:l.length<=4000)(h58:l.getLast? =some 58)(hn:isNm l.dropLast=false)(w:World)(hB:BdAt w g gm base b)(hbw:base<=w.heap.size):
  Calls Tryz.prog 59 #[.pointer (some ⟨g,0,none⟩),.int .i64 i,.string ⟨l.toArray⟩] w (LineEnd g gm base b i l w):=by
 have S:=zh (z3T l hl h58)
 have N:=zh (z2y l.dropLast)
 have F:=zh z1x
 have E:Hid ((lineF b i l).1=1):=zh (by rw[lab_F b i l h58,if_pos hn])
 rw[hn]at N
 have hmf:∀(fn:Fn) (first cap:Array Value) (w:World),(Instr.makeFunc fn first cap).run Tryz.prog w= .ok (.func fn first cap) w:=fun _ _ _ _=>rfl
 clear h58 hn
 go_enter_defers Tryz.func59,Tryz.ntmps59
 go_wp2_with fail
 refine(S.out _).mono ?_
 rintro e w1 ⟨rfl,rfl⟩
 go_wp2_with fail
 refine(N.out _).mono ?_
 rintro e w1 ⟨rfl,rfl⟩
 go_wp2_with fail
 refine(F.out _ _).mono ?_
 rintro e w1 ⟨rfl,rfl⟩
 exact z0A _ w.heap.size 1 _ _ rfl (Blk.new _ _ _) (fun w' h1 h2 h3=>z0E E.out kD (z3v h2 kO))
theorem z7E(g gm base:Nat)(hg:gm<g)(hb:g<base)(b:Bd)(i:Int)(l:List UInt8)(hl:l.length<=4000)(h58:l.getLast? =some 58)(hn:isNm l.dropLast=true)(hf:(findN b.nms l.dropLast).isSome=true)(w:World)(hB:BdAt w g gm base b)(hbw:base<=w.heap.size):
  Calls Tryz.prog 59 #[.pointer (some ⟨g,0,none⟩),.int .i64 i,.string ⟨l.toArray⟩] w (LineEnd g gm base b i l w):=by
 have S:=zh (z3T l hl h58)
 have N:=zh (z2y l.dropLast)
 have F:=zh z1x
 have E:Hid ((lineF b i l).1=6):=zh (by rw[lab_F b i l h58,if_neg (by simp[hn]),if_pos hf])
 rw[hn]at N
 obtain⟨⟨v,h1,h2⟩,h3,h4,h5⟩:=hB
 have MP:=zh (fun X (hX:Below w.heap.size w X)=>z3C X gm b.nms l.dropLast (by obtain⟨es,c,h,he⟩:=h3;exact⟨es,c,by rw[hX.block gm (Array.getElem?_eq_some_iff.1 h).1];exact h,he⟩))
 rw[hf]at MP
 have hlk:=MP.out (w.alloc (.cells #[.int .i64 0] 47)) (below_alloc (Below.refl _ _) _)
 obtain⟨d,hd⟩:∃d,d=(findN b.nms l.dropLast).getD 0:=⟨_,rfl⟩
 rw[<-hd]at hlk
 clear hd MP
 obtain⟨cl,cc,cf⟩:=(h1.alloc (.cells #[.int .i64 0] 47)).use
 have hmf:∀(fn:Fn) (first cap:Array Value) (w:World),(Instr.makeFunc fn first cap).run Tryz.prog w= .ok (.func fn first cap) w:=fun _ _ _ _=>rfl
 clear h58 hn hf h1 h2 h3 h5
 go_enter_defers Tryz.func59,Tryz.ntmps59
 go_wp2_with fail
 refine(S.out _).mono ?_
 rintro e w1 ⟨rfl,rfl⟩
 go_wp2_with fail
 refine(N.out _).mono ?_
 rintro e w1 ⟨rfl,rfl⟩
 go_wp2_with fail
 refine(F.out _ _).mono ?_
 rintro e w1 ⟨rfl,rfl⟩
 exact z0A _ w.heap.size 6 _ _ rfl (Blk.new _ _ _) (fun w' h1 h2 h3=>z0E E.out kD (z3v h2 kO))
theorem z0cP(g gm base:Nat)(hg:gm<g)(hb:g<base)(b:Bd)(i:Int)(l:List UInt8)(hl:l.length<=4000)(h58:l.getLast? =some 58)(hn:isNm l.dropLast=true)(hf:findN b.nms l.dropLast=none)(w:World)(hB:BdAt w g gm base b)(hbw:base<=w.heap.size):
  Calls Tryz.prog 59 #[.pointer (some ⟨g,0,none⟩),.int .i64 i,.string ⟨l.toArray⟩] w (LineEnd g gm base b i l w):=by
 have S:=zh (z3T l hl h58)
 have N:=zh (z2y l.dropLast)
 have E:Hid (lineF b i l=(0,{b with nms:=b.nms++[(l.dropLast,b.sz)]})):=zh (by rw[lab_F b i l h58,if_neg (by simp[hn]),if_neg (by simp[hf])])
 rw[hn]at N
 obtain⟨⟨v,h1,h2⟩,h3,h4,h5⟩:=hB
 have M0:MapAt (w.alloc (.cells #[.int .i64 0] 47)) gm b.nms:=by
  obtain⟨es,c,h,he⟩:=h3
  exact⟨es,c,by rw[(MapKept.heap_alloc _ _).2 gm (Array.getElem?_eq_some_iff.1 h).1];exact h,he⟩
 have hlk:=z3C _ gm b.nms l.dropLast M0
 rw[hf]at hlk
 simp only[Option.getD_none,Option.isSome_none]at hlk
 obtain⟨X',hput,hpp,hpm⟩:=z8G (w.alloc (.cells #[.int .i64 0] 47)).drew gm b.nms l.dropLast b.sz M0 hf
 have B1:=zh (h1.alloc (.cells #[.int .i64 0] 47))
 have B2:=zh h2
 have B45:=zh (And.intro h4 h5)
 obtain⟨cl,cc,cf⟩:=(h1.alloc (.cells #[.int .i64 0] 47)).use
 have hmf:∀(fn:Fn) (first cap:Array Value) (w:World),(Instr.makeFunc fn first cap).run Tryz.prog w= .ok (.func fn first cap) w:=fun _ _ _ _=>rfl
 have PP:=zh hpp
 have PM:=zh hpm
 clear h58 hn hf h1 h2 h3 h4 h5 hpp hpm
 go_enter_defers Tryz.func59,Tryz.ntmps59
 go_wp2_with fail
 refine(S.out _).mono ?_
 rintro e w1 ⟨rfl,rfl⟩
 go_wp2_with fail
 refine(N.out _).mono ?_
 rintro e w1 ⟨rfl,rfl⟩
 go_wp2_with fail
 refine z8r ?_
 refine z0k (fun k W=>(k=3->W.cell? ⟨g,1,none⟩=some (.map (some gm)))/\(k=8->W.cell? ⟨g,2,none⟩=some (.int .i64 b.sz))) [0,1,2,3,4,5,6,7,8] kR ?_
 refine tF 0 ⟨nD,nD⟩ ?_
 refine tF 1 ⟨nD,nD⟩ ?_
 refine tF 2 ⟨nD,nD⟩ ?_
 refine tG 3 rfl (by intro w hF;have hF2:=hF.1 rfl;clear hF;go_simp;try with_reducible rfl) ⟨(fun _=>(B1.out.drew.cell 1)),nD⟩ ?_
 try simp only[yA,yB,yC,Act.put,yD,yE,yF]
 refine tF 4 ⟨nD,nD⟩ ?_
 refine tF 5 ⟨nD,nD⟩ ?_
 refine tF 6 ⟨nD,nD⟩ ?_
 refine tF 7 ⟨nD,nD⟩ ?_
 try simp only[yA,yB,yC,Act.put,yD,yE,yF]
 refine tG 8 rfl (by intro w hF;have hF2:=hF.2 rfl;clear hF;go_simp;try with_reducible rfl) ⟨nD,(fun _=>(B1.out.drew.cell 2))⟩ ?_
 refine rF 9 fun K hK=> ?_
 go_simp
 refine hK.out _ _ (Sat.off [3,8] (fun k w hk=>by simp only[List.mem_cons,List.not_mem_nil,or_false,not_or]at hk;exact⟨(fun e=>absurd e hk.1),(fun e=>absurd e hk.2)⟩) kR _ _) ?_
 clear hK K
 try simp only[yA,yB,yC,Act.put,yD,yE,yF]
 refine z0g kR ?_ _
 refine z6l ?_
 have PB:Hid (Blk X' w.heap.size #[.int .i64 0] 47):=zh ((Blk.new w _ _).drew.put PP.out kO)
 obtain⟨pl,pc,pf⟩:=PB.out.use
 clear hput hlk
 go_wp2
 refine z3S _ w.heap.size 0 _ _ rfl (Blk.set PB.out rfl) ⟨by rw[E.out],fun _=> ?_,?_⟩
 ·rw[E.out]
  refine⟨⟨v,?_,?_⟩,?_,B45.out.1,B45.out.2⟩
  ·exact(B1.out.drew.put PP.out kO).setAt (by show g≠w.heap.size;omega)
  ·refine z0o ?_ (fun r hr=>by have:=(B2.out.lt r hr).2;show r≠w.heap.size;omega)
   exact own_put (base:=base) (World.ownsRow.drew (B2.out.alloc _)) PP.out kO
  ·obtain⟨es,c,h,he⟩:=PM.out
   exact⟨es,c,by rw[Below.heap_setCell _ _ _ _ (show gm≠w.heap.size by omega)];exact h,he⟩
 ·refine Below.setCell ?_ (by show gm<=w.heap.size;omega) _
  exact(((Below.refl gm w).alloc kO _).drew).trans PP.out.below
theorem z0bn(g gm base:Nat)(hg:gm<g)(hb:g<base)(b:Bd)(i:Int)(l:List UInt8)(hl:l.length<=4000)(h58:l.getLast? =some 58)(w:World)(hB:BdAt w g gm base b)(hbw:base<=w.heap.size):
  Calls Tryz.prog 59 #[.pointer (some ⟨g,0,none⟩),.int .i64 i,.string ⟨l.toArray⟩] w (LineEnd g gm base b i l w):=by
 cases hn:isNm l.dropLast with
 |false=>exact z0bm g gm base hg hb b i l hl h58 hn w hB hbw
 |true=>
  cases hf:findN b.nms l.dropLast with
  |none=>exact z0cP g gm base hg hb b i l hl h58 hn hf w hB hbw
  |some d=>exact z7E g gm base hg hb b i l hl h58 hn (by rw[hf];rfl) w hB hbw
end Go.Proofs.YtkoocfcnfolkhaaGreatDoor
