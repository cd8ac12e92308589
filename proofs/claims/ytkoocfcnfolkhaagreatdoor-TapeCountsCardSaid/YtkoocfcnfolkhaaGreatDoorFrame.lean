/- The frame that every law's row shares: a law answers true, makes new memory at most, and so each argument reads behind the call as it read before. Conditions: none of its own. -/
import Derived.Test.YtkoocfcnfolkhaaGreatDoorSq
import Derived.ProofKit
import Derived.Test.YtkoocfcnfolkhaaGreatDoorBase
import Derived.OpenShut
namespace Go.Mq
open Go.ChangeShapes Go.WideShapes Go.ChangeAt Go.RowKit
section
variable {H:Type} {enc:TypeId×Value->H} {P:Program}
theorem z3t(hl:laidOutB P=true){W W':World}{sp':Nat->Bool}:
  ∀{ts:List TypeId} {vs:List Value} {ds:List (DataW H)} {p:List MemPlace},(∀t∈ts,P.readableRec t=true/\t<P.types.size)->
   DataW.TrodAll enc P W 0 (fun _=>true) true ts vs ds p->(∀x∈p,W.sameAt W' x)->(∀x∈p,sp' x.block=true)->DataW.TrodAll enc P W' 0 sp' true ts vs ds p
 |[],_,_,_,_,h,_,_=>by
  obtain⟨rfl,rfl,rfl⟩:=trodAll_nil h
  exact trodAll_mk0
 |t::ts,_,_,_,hts,h,hs,hq=>by
  obtain⟨v,vs1,d,ds1,a,b,rfl,rfl,rfl,h1,h2⟩:=trodAll_cons h
  have ht:=hts t kS
  exact⟨a,b,WideElems.Trod_stays hl ht.1 ht.2 h1 (fun x hx=>hs x (by simp[hx])) (fun x hx=>hq x (by simp[hx])),
   z3t hl (fun t' ht'=>hts t' (by simp[ht'])) h2 (fun x hx=>hs x (by simp[hx])) (fun x hx=>hq x (by simp[hx])),rfl⟩
theorem z4K{f:Func}{s:ChangeSpec}{apart fresh handsOn again:Bool}{tb:TypeId}{W W':World}{args:Array Value}{ds gs:List (DataW H)}{before:List MemPlace}
  (hl:laidOutB P=true)(hts:f.params.toList.all (fun t=>P.readableRec t&&decide (t<P.types.size))=true)
  (hvars:s.vars=[])(hb:P.underlying tb=some .bool)(hr:f.resultTypes= #[tb])(hs:s.fn H ds={results:=[.lit (.bool true)],args:=ds})
  (hW:DataW.Whole enc P f.params.toList s.vars apart W args.toList ds gs before)(h:Below W.heap.size W W'):
  s.post enc P f apart fresh handsOn again W args (.bool true) W':=by
 have hts':∀t∈f.params.toList,P.readableRec t=true/\t<P.types.size:=by
  intro t ht
  have:=List.all_eq_true.1 hts t ht
  simpa using this
 have hlt:=hW.lt
 obtain⟨p,q,hA,hV,rfl,hz,hn⟩:=id hW
 rw[hvars]at hV
 obtain⟨rfl,rfl⟩:=trodVars_none hV
 rw[List.append_nil]at*
 have hsame:∀x∈p,W.sameAt W' x:=fun x hx=>h.same (hlt x hx)
 have hres:∀(b:Nat) (sp:Nat->Bool) (hd:Bool),DataW.TrodAll enc P W' b sp hd f.resultTypes.toList ((Value.bool true).resultList f.resultTypes.size) (s.fn H (ds++[])).results []:=by
  intro b sp hd
  rw[List.append_nil,hs,hr]
  exact trodAll_cons_mk (shut_bool hb true) trodAll_mk0
 have hargs:∀sp:Nat->Bool,(∀x∈p,sp x.block=true)->DataW.TrodAll enc P W' 0 sp true f.params.toList args.toList (s.fn H (ds++[])).args p:=by
  intro sp hsp
  rw[List.append_nil,hs]
  exact z3t hl hts' hA hsame hsp
 have hvs:∀sp:Nat->Bool,DataW.TrodVars enc P W' sp s.vars (s.fn H (ds++[])).vars []:=by
  intro sp
  rw[List.append_nil,hs,hvars]
  exact rfl
 refine⟨ds,[],p,[],p,[],hW,hres _ _ _,hargs _ (fun x hx=>by simpa using hlt x hx),hvs _,h.frame _,fun _=>⟨ok_one hr rfl (okWide_bool_mk hb true),?_⟩⟩
 refine⟨_,_,([]++p)++[],⟨[]++p,[],trodAll_append (hargs _ (fun _ _=>rfl)) (hres _ _ _),hvs _,rfl,?_,?_⟩,?_⟩
 ·intro b off hp
  have hp':MemPlace.cell b off∈p:=by simpa using hp
  rw[h.frozen (hlt _ hp')]
  exact hz b off hp'
 ·intro ha
  simpa using hn ha
 ·intro x hx _
  simpa using hx
def leaves(P:Program):Nat->TypeId->Nat->List (Nat×TypeId)
 |0,t,off=>[(off,t)]
 |n+1,t,off=>
  match P.underlying t with
  |some (.struct fs)=>fs.toList.flatMap fun f=>leaves P n f.type (off+f.offset)
  |some (.array k e)=>(List.range k).flatMap fun i=>leaves P n e (off+i*P.cellsOf e)
  |_=>[(off,t)]
def leavesOk(P:Program):Nat->TypeId->Bool
 |0,_=>true
 |n+1,t=>
  match P.underlying t with
  |some (.struct fs)=>fs.toList.all fun f=>decide (f.offset+P.cellsOf f.type<=P.cellsOf t)&&leavesOk P n f.type
  |some (.array k e)=>decide (k*P.cellsOf e<=P.cellsOf t)&&leavesOk P n e
  |_=>true
theorem z1m{α:Type}(l:List α)(off m o k:Nat)(h:o+k<=m):(((l.drop off).take m).drop o).take k=(l.drop (off+o)).take k:=by
 rw[List.drop_take,List.drop_drop,List.take_take,Nat.min_eq_left kO]
theorem z6m{w:World}{base:Nat}{spare:Nat->Bool}{held:Bool}(cs:List Value):
  ∀(n:Nat) (t:TypeId) (off:Nat) (fuel:Nat) (x:DataW H×List MemPlace),leavesOk P n t=true->DataW.trod enc P w base spare held fuel t ((cs.drop off).take (P.cellsOf t))=some x->
   ∀q∈leaves P n t off,∃fuel' y,DataW.trod enc P w base spare held fuel' q.2 ((cs.drop q.1).take (P.cellsOf q.2))=some y:=by
 intro n
 induction n with
 |zero=>
  intro t off fuel x _ h q hq
  simp only[leaves,List.mem_singleton]at hq
  subst hq
  exact⟨fuel,x,h⟩
 |succ n ih=>
  intro t off fuel x hok h q hq
  unfold leaves at hq
  unfold leavesOk at hok
  cases hu:P.underlying t with
  |none=>rw[hu]at hq;simp only[List.mem_singleton]at hq;subst hq;exact⟨fuel,x,h⟩
  |some d=>
   rw[hu]at hq hok
   have plain:q∈[(off,t)]->∃fuel' y,DataW.trod enc P w base spare held fuel' q.2 ((cs.drop q.1).take (P.cellsOf q.2))=some y:=by
    intro hq
    simp only[List.mem_singleton]at hq
    subst hq
    exact⟨fuel,x,h⟩
   cases d with
   |struct fs=>
    simp only[List.mem_flatMap]at hq
    obtain⟨f,hf,hq⟩:=hq
    obtain⟨i,hi⟩:=List.getElem?_of_mem hf
    have hall:=List.all_eq_true.1 hok f hf
    simp only[Bool.and_eq_true,decide_eq_true_eq]at hall
    obtain⟨xs,m,_,_,_,hlen,hfs⟩:=DataW.trod_struct hu h
    have hi':fs[i]? =some f:=by simpa using hi
    have h2:=hfs i f hi'
    rw[z1m _ _ _ _ _ hall.1]at h2
    have hlt:i<xs.length:=by
     rw[hlen]
     have:=List.getElem?_eq_some_iff.1 hi
     simpa using this.1
    rw[List.getElem?_eq_getElem hlt]at h2
    exact ih f.type _ m _ hall.2 h2 q hq
   |array k e=>
    simp only[List.mem_flatMap,List.mem_range]at hq
    obtain⟨i,hi,hq⟩:=hq
    simp only[Bool.and_eq_true,decide_eq_true_eq]at hok
    obtain⟨xs,m,_,_,_,hlen,hfs⟩:=DataW.trod_array hu h
    have h2:=hfs i hi
    have hle:i*P.cellsOf e+P.cellsOf e<=P.cellsOf t:=by
     have:(i+1)*P.cellsOf e<=k*P.cellsOf e:=Nat.mul_le_mul_right _ hi
     rw[Nat.succ_mul]at this
     omega
    rw[z1m _ _ _ _ _ hle]at h2
    rw[List.getElem?_eq_getElem kO]at h2
    exact ih e _ m _ hok.2 h2 q hq
   |_=>exact plain hq
theorem z2W{cs:List Value}{i:Nat}{v:Value}(h:(cs.drop i).take 1=[v]):cs[i]? =some v:=by
 have:=congrArg (fun l=>l[0]?) h
 simpa using this
theorem z3m{w:World}{base:Nat}{spare:Nat->Bool}{held:Bool}{cs:List Value}{n:Nat}{t t':TypeId}{k:IntKind}{i fuel:Nat}{x:DataW H×List MemPlace}(hok:leavesOk P n t=true)(hl:(i,t')∈leaves P n t 0)
  (hk:P.underlying t'=some (.int k))(h1:P.cellsOf t'=1)(hlen:cs.length=P.cellsOf t)(h:DataW.trod enc P w base spare held fuel t cs=some x):∃m,cs[i]? =some (.int k m)/\(Lit.int k m).wf=true:=by
 obtain⟨f',y,hy⟩:=z6m cs n t 0 fuel x hok (by rw[List.drop_zero,<-hlen,List.take_length];exact h) (i,t') hl
 obtain⟨m,hm,_,hw⟩:=DataW.trod_int hk hy
 rw[h1]at hm
 exact⟨m,z2W hm,hw⟩
theorem z1A{w:World}{t e:TypeId}{k:IntKind}{r:Reach}{b0:Nat}{held:Bool}{v:Value}{d:DataW H}{ps:List MemPlace}(ht:P.underlying t=some (.slice e))(he:P.underlying e=some (.int k))(hc:P.cellsOf e=1)
  (hval:Value.okWide P w r b0 t v)(hd:DataW.Trod enc P w 0 (fun _=>true) held t v d ps):∃xs,SliceAt w k v xs:=by
 obtain⟨a,len,cap,rfl⟩:=okWide_slice ht hval
 obtain⟨fuel,hf⟩:=hd
 rcases open_ints ht he hc (by simpa [Value.cells]using hf)with⟨hcs,_⟩|⟨a',len',cap',zs,hcs,_,hl,hm,hz,_,hcell,hw⟩
 ·simp at hcs
  obtain⟨rfl,rfl,rfl⟩:=hcs
  exact⟨[],none,0,rfl,by simp,by simp,by simp,by simp⟩
 ·simp at hcs
  obtain⟨rfl,rfl,rfl⟩:=hcs
  simp only[if_true]at hz
  have hlen:(zs.take len).length=len:=by rw[List.length_take];omega
  refine⟨zs.take len,some a',cap,by rw[hlen],by omega,hm,fun x hx=>hw x (List.mem_of_mem_take hx),fun h0=> ?_⟩
  obtain⟨b,off,rfl,hcc⟩:=ints_at hcell kO
  refine⟨b,off,rfl,?_,fun i hi=> ?_⟩
  ·have:=hcell 0 kO
   exact World.block_lt_of_cell? _ _ this
  ·have:=hcc i kO
   rw[List.getD_eq_getElem?_getD,List.getElem?_take,if_pos kO,<-List.getD_eq_getElem?_getD]
   exact this
end
#print axioms z6m
#print axioms z4K
end Go.Mq
