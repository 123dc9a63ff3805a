/- Lemmas. -/
import Derived.Test.YtlfngkelmbdehaaGreatDoorMay
import Derived.Lib.ItoaNum
namespace Go.Proofs.YtlfngkelmbdehaaGreatDoor
open Go.RowKit
set_option linter.unusedVariables false
set_option linter.unusedSimpArgs false
set_option maxHeartbeats 16000000
set_option maxRecDepth 20000
def eZ(s:String):List UInt8:=s.toUTF8.data.toList
def mF(n:Int):List UInt8:=Lib.itoa n
def EZ(m:Mk):List UInt8:=
 if m=(0,0) then eZ "NotApplicable" else if m=(4,0) then eZ "Permit" else if m=(0,4) then eZ "Deny"
 else if m=(2,0) then eZ "Indeterminate"++[123,80,125] else if m=(0,2) then eZ "Indeterminate"++[123,68,125] else if m=(2,2) then eZ "Indeterminate"++[123,68,80,125] else []
def JB(n:Nat):UInt8:=if n<10 then UInt8.ofNat (48+n) else UInt8.ofNat (87+n)
def uD(c:UInt8):List UInt8:=if fC c then [c] else [92,JB (c.toNat / 16),JB (c.toNat % 16)]
def FA(l:lU):List UInt8:=[34]++l.flatMap uD++[34]
def vC(v:V3):List UInt8:=
 if aT v=false then []
 else if v.1=1 then (if v.2.1=1 then eZ "true" else eZ "false")
 else if v.1=4 then [64]++mF v.2.1
 else if v.1=5 then [35]++v.2.2.data.toList
 else if v.1=3 then FA v.2.2.data.toList
 else mF v.2.1
def Aj(r:Rpl):List UInt8:=
 if r.err=12/\r.mark≠(4,0) then eZ "denied "++EZ r.mark
 else if r.err≠0/\0<r.at_ then eZ "error "++mF r.err++eZ " at "++mF r.at_
 else if r.err≠0 then eZ "error "++mF r.err
 else if r.aC7=true then eZ "glass"
 else if r.hidden=true then eZ "hidden"
 else if r.val≠bD then eZ "ok "++vC r.val
 else eZ "ok"
def FB(r:Rpl):ByteArray:=bs (Aj r)
def St:ByteArray:=str "what"
def gW(s:Sto)(q:lU):Sto×ByteArray:=
 match kU q with
 |none=>(s,St)
 |some o=>((dE s o).1,FB (dE s o).2.1)
theorem VS(s:Sto)(o:Op):(dJ s o).aCQ<=s.aCQ+1:=by
 unfold dJ;dsimp only;have h0:s.aCQ<=s.aCQ+1:=qo;split
 .exact h0
 split
 .exact h0
 split
 .exact h0
 split
 .exact h0
 split
 .exact h0
 split
 .split<;>exact h0
 split
 .split
  .exact Int.le_refl _
  .exact h0
 split<;>exact h0
theorem QV(s:Sto)(o:Op):(dE s o).1.aCQ<=s.aCQ+1:=by
 have h:=pH s o
 rcases b:dE s o with ⟨t,r,d,e⟩
 rw[b] at h
 cases h with
 |none _ _ he k _=>show s.aCQ<=s.aCQ+1;omega
 |some m l glass hidden v n j g c i f p=>
  dsimp only;rw[(mT _ _ _ _).2];by_cases a:(decide (m=(4,0))||glass)=true
  .rw[iP a];have h1:=VS (if glass=true then gA s o o.aC2 else s) o;rw[(gQ glass s o o.aC2).2] at h1;exact h1
  .rw[iN a,(gQ glass s o o.aC2).2];omega
def mD(k:Nat)(s:Sto):Prop:=AB s/\0<=s.aCQ/\s.aCQ<=(k:Int)
theorem mD.ok{k:Nat}{s:Sto}(h:mD k s):AB s:=h.1
theorem VT:mD 0 mN:=⟨Xt,qe,qe⟩
theorem mD.guard{k:Nat}{s:Sto}(h:mD k s)(o:Op):mD (k+1) (dE s o).1:=by
 have h1:=(XV s o).2;have h2:=QV s o;exact⟨(Ij s o h.1).1,qA h.2.1,qA h.2.2⟩
theorem mD.more{k m:Nat}{s:Sto}(h:mD k s)(hm:k<=m):mD m s:=⟨h.1,h.2.1,qA h.2.2⟩
theorem mD.line{k:Nat}{s:Sto}(h:mD k s)(q:lU):mD (k+1) (gW s q).1:=by
 unfold gW;split
 .exact h.more qo
 .exact h.guard _
def VU:=(gW mN (eZ "ann new c"))
def VV:=(gW VU.1 (eZ "ann write c f 7"))
def DS:List UInt8:=eZ "ann policy policy p first "++[123]++eZ " deny d when (action.name = #write); permit r; "++[125]
def VW:=(gW VV.1 DS)
def VX:=(gW VW.1 (eZ "ann write c f 8"))
def Kt:=(gW VX.1 (eZ "bob read c f"))
theorem qG:VU.2=str "ok"/\VV.2=str "ok"/\VW.2=str "ok"/\VX.2=str "denied Deny"/\Kt.2=str "ok 7":=by
 refine⟨?_,?_,?_,?_,?_⟩<;>kernel_rfl
section
variable {P:Program} {ops:Array Oper} {md:Region.Mode} {C:World->Prop} {Q:Exit->Act->World->Prop}
def qH(listed:Array Bool)(l:List Nat):Array Bool:=l.foldl (fun L i=>L.setIfInBounds i true) listed
theorem PO{n:Nat}{Q:Act->World->Prop}:∀(f:Nat) (listed:Array Bool) (a:Act) (w:World),oS P md ops C n Q f listed a w->oS P md ops C n Q (f+1) listed a w
 |0,listed,a,w,h=>⟨fun _=>h.2,fun i b=>by rw[h.1] at b;cases b⟩
 |f+1,listed,a,w,h=>⟨h.1,fun i b=>SN (fun d w' c=>⟨c.1,PO f _ d w' c.2⟩) (h.2 i b)⟩
theorem Ak{n:Nat}{Q:Act->World->Prop}{f g:Nat}(h:f<=g){listed:Array Bool}{a:Act}{w:World}(b:oS P md ops C n Q f listed a w):oS P md ops C n Q g listed a w:=by
 induction h with
 |refl=>exact b
 |step _ c=>exact PO _ _ _ _ c
def FC(md:Region.Mode)(ops:Array Oper)(n:Nat):List (Nat×Bool)->Array Bool->Bool
 | [],_=>true
 |(k,fl)::r,listed=>(if fl=true then Region.ready md ops listed==[k] else (Region.ready md ops listed).contains k&&Region.free md ops listed k)&&decide (k<n)&&FC md ops n r (listed.setIfInBounds k true)
theorem sB{n F:Nat}{Q R:Act->World->Prop}(m:Region.noSelect ops=true)(l:Region.sinkB md ops n=true)(f:Region.chainB md ops n=true)(g:n<ops.size):∀(H:List (Nat×Bool)) (listed:Array Bool) (a:Act) (w:World),HeadInv md ops n listed->C w->FC md ops n H listed=true->cI P ops C n R H a w->(∀d w',R d w'->C w'->HeadInv md ops n (qH listed (H.map (·.1)))->oS P md ops C n Q F (qH listed (H.map (·.1))) d w')->oS P md ops C n Q (H.length+F) listed a w
 | [],listed,a,w,inv,hw,hB,h,hK=>by
   rw[List.length_nil,Nat.zero_add];exact hK a w h hw inv
 |(k,true)::r,listed,a,w,inv,hw,hB,h,hK=>by
  simp only[FC,if_true,Bool.and_eq_true,bQ,decide_eq_true_eq] at hB;obtain⟨⟨j,c⟩,e⟩:=hB;rw[List.length_cons,show r.length+1+F=(r.length+F)+1 by omega];refine IJ j ?_;have t:=inv.set (i:=k) (by rw[j];exact List.mem_singleton.2 rfl) c;unfold cI at h;unfold uO
  cases b:ops[k]? with
  |none=>simp only[b] at h
  |some o=>
   simp only[b] at h ⊢;unfold mv at h;split
   .rename_i q;rw[iP q] at h;exact sR (fun d w' p=>⟨p.1,sB m l f g r _ d w' t (p.1 c) e p.2 hK⟩) h
   .rename_i q;rw[iN q] at h;exact⟨h.1,sB m l f g r _ _ w t (h.1 c) e h.2 hK⟩
 |(k,false)::r,listed,a,w,inv,hw,hB,h,hK=>by
  simp only[FC,Bool.false_eq_true,if_false,Bool.and_eq_true,decide_eq_true_eq] at hB;obtain⟨⟨⟨j,x⟩,c⟩,e⟩:=hB;have s:k∈Region.ready md ops listed:=by simpa using j
  rw[List.length_cons,show r.length+1+F=(r.length+F)+1 by omega];unfold cI at h
  cases b:ops[k]? with
  |none=>simp only[b] at h
  |some o=>
   simp only[b] at h;obtain⟨v,z,h1,h2⟩:=yieldsAt_of_stOp b ((EL b).2 h);exact JS b (Region.noSelect_spec m) l f g c _ listed a w inv (Region.free_spec b x) s hw
    (fun w1 y=>yieldsAt_of_stOp b ((EL b).2 (h1 w1 y)))
    (sB m l f g r _ _ w (inv.set s c) hw e h2 hK)
def JC(P:Program)(md:Region.Mode)(ops:Array Oper)(C:World->Prop)(n:Nat)(b:Nat->List Nat)(I:Act->World->Prop):Nat->Array Bool->Act->World->Prop
 |0,_,a,w=>I a w
 |g+1,listed,a,w=>∀i∈Region.ready md ops listed,mv P ops ((ops[i]?).getD default) a w (fun c w'=>C w'/\cI P ops C n (fun d e=>JC P md ops C n b I g (qH (listed.setIfInBounds i true) (b i)) d e) ((b i).map (·,false)) c w')
theorem gJ{n g:Nat}{b:Nat->List Nat}{I:Act->World->Prop}{listed:Array Bool}{a:Act}{w:World}(L:List Nat)(f:Region.ready md ops listed=L)(h:∀i∈L,∃o,ops[i]? =some o/\∀K:Act->World->Prop,(∀c w',C w'->cI P ops C n (fun e k=>JC P md ops C n b I g (qH (listed.setIfInBounds i true) (b i)) e k) ((b i).map (·,false)) c w'->K c w')->mv P ops o a w K):JC P md ops C n b I (g+1) listed a w:=by
 intro i d;rw[f] at d;obtain⟨o,j,h1⟩:=h i d;rw[j];exact h1 _ (fun c w' h2 h3=>⟨h2,h3⟩)
theorem Qe{p:nP}{i:Nat}{L:List Nat}(h:p i)(a:∀j∈L,p j):∀j∈i::L,p j:=fun j hj=>by
 rcases List.mem_cons.1 hj with rfl|h1
 .exact h
 .exact a j h1
def LM(md:Region.Mode)(ops:Array Oper)(n:Nat)(a:Nat->List Nat)(c:Array Bool):Nat->Nat->Array Bool->Bool
 |0,_,listed=>decide (listed=c)
 |g+1,b,listed=> !(Region.ready md ops listed).isEmpty&&(Region.ready md ops listed).all (fun i=>decide (i<n)&&decide (1+(a i).length<=b)&&(ops[i]?).isSome&&FC md ops n ((a i).map (·,false)) (listed.setIfInBounds i true)&&LM md ops n a c g (b - (1+(a i).length)) (qH (listed.setIfInBounds i true) (a i)))
theorem Al{n F:Nat}{Q:Act->World->Prop}{c:Nat->List Nat}{l:Array Bool}{I:Act->World->Prop}(B:Region.noSelect ops=true)(A:Region.sinkB md ops n=true)(v:Region.chainB md ops n=true)(y:n<ops.size)(s:∀d w',I d w'->C w'->HeadInv md ops n l->oS P md ops C n Q F l d w'):∀(g b:Nat) (listed:Array Bool) (a:Act) (w:World),HeadInv md ops n listed->C w->LM md ops n c l g b listed=true->JC P md ops C n c I g listed a w->oS P md ops C n Q (b+F) listed a w
 |0,b,listed,a,w,inv,hw,hB,h=>by
  have e:listed=l:=by simpa [LM] using hB
  subst e;exact Ak qo (s a w h hw inv)
 |g+1,b,listed,a,w,inv,hw,hB,h=>by
  simp only[LM,Bool.and_eq_true,Bool.not_eq_true',List.all_eq_true,decide_eq_true_eq] at hB;obtain⟨j,t⟩:=hB;have S:1<=b:=by
   cases z:Region.ready md ops listed with
   |nil=>rw[z] at j;cases j
   |cons i r=>have:=(t i (by rw[z];exact List.mem_cons_self)).1.1.1.2;omega
  obtain⟨f,K⟩:∃f,b+F=f+1:=⟨b+F - 1,qo⟩;rw[K];refine⟨fun h0=>(by rw[h0] at j;cases j),fun i p=> ?_⟩;obtain⟨⟨⟨⟨L,hlen⟩,N⟩,H⟩,G⟩:=t i p;have h1:=h i p;have O:=inv.set (i:=i) p L;obtain⟨o,M⟩:=Option.isSome_iff_exists.1 N;have x:∀(d:Act) (w':World),(C w'/\cI P ops C n (fun D R=>JC P md ops C n c I g (qH (listed.setIfInBounds i true) (c i)) D R) ((c i).map (·,false)) d w')->((i<n->C w')/\oS P md ops C n Q f (listed.setIfInBounds i true) d w'):=fun d w' m=>by
   refine⟨fun _=>m.1,?_⟩;have e:((c i).map (fun k=>(k,false))).map (·.1)=c i:=by rw[List.map_map];exact List.map_id _
   have h2:=sB (F:=b - (1+(c i).length)+F) (Q:=Q) B A v y _ _ d w' O m.1 H m.2 (fun a2 w2 J E inv2=>by
    rw[e] at inv2 ⊢;exact Al B A v y s g _ _ a2 w2 inv2 E G J)
   refine Ak ?_ h2;rw[List.length_map];omega
  unfold uO;rw[M] at h1 ⊢;unfold mv at h1;dsimp only[Option.getD_some] at h1 ⊢;split
  .rename_i q;rw[iP q] at h1;exact sR x h1
  .rename_i q;rw[iN q] at h1;exact x _ _ h1
def Su(md:Region.Mode)(ops:Array Oper)(n:Nat)(H1:List (Nat×Bool))(g b:Nat)(a:Nat->List Nat)(H T:List (Nat×Bool)):Bool:=
 Region.noSelect ops&&decide (n<ops.size)&&Region.sinkB md ops n&&Region.chainB md ops n&&decide (H1.length+(b+(H.length+T.length))=ops.size)&&FC md ops n H1 (Array.replicate ops.size false)&&LM md ops n a (qH (Array.replicate ops.size false) ((H1.map (·.1))++(List.range ops.size).filter (fun i=> !(((H1.map (·.1))++(H.map (·.1))++(T.map (·.1))).contains i)))) g b (qH (Array.replicate ops.size false) (H1.map (·.1)))&&EK md ops n T H (qH (Array.replicate ops.size false) ((H1.map (·.1))++(List.range ops.size).filter (fun i=> !(((H1.map (·.1))++(H.map (·.1))++(T.map (·.1))).contains i))))
theorem LN{id:Nat}{a:Act}{w:World}{l:List Oper}(n:Nat)(H1:List (Nat×Bool))(g b:Nat)(q:Nat->List Nat)(H T:List (Nat×Bool))(C:World->Prop)(I:Act->World->Prop)(hm:P.follows .mixedOrders=true)(m:Su .any l.toArray n H1 g b q H T=true)(hC:C w.drew)
 (h:cI P l.toArray C n (fun c w'=>C w'->JC P .any l.toArray C n q I g (qH (Array.replicate l.toArray.size false) (H1.map (·.1))) c w') H1 a w.drew)
 (s:∀c w',I c w'->C w'->cI P l.toArray C n (fun a w=>Q .normal a w) (H++T) c w'):(Code.region id l.toArray true).wp P Q a w:=by
 simp only[Su,Bool.and_eq_true,decide_eq_true_eq] at m;obtain⟨⟨⟨⟨⟨⟨⟨k,f⟩,i⟩,e⟩,d⟩,v⟩,r⟩,y⟩:=m;have B:HeadInv .any l.toArray n (Array.replicate l.toArray.size false):=
  ⟨qs,fun j D _ d=>(by rw[getD_replicate_false] at d;cases d),fun t _ z=>getD_in (by simpa using z) (getD_replicate_false _ _)⟩
 have h1:=sB (md:= .any) (F:=b+(H.length+T.length)) (Q:=fun a w=>Q .normal a w) k i e f H1 _ a w.drew B hC v h (fun c w' x o A=>Al k i e f (fun a2 w2 h2 p inv2=>tU (md:= .any) k i e f H _ a2 w2 inv2 p y (s a2 w2 h2 p)) g b _ c w' A o r (x o));rw[d] at h1;exact wp_region_any hm (xN _ _ _ _ h1)
end
end Go.Proofs.YtlfngkelmbdehaaGreatDoor
