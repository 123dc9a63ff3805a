/- Lemmas. -/
import Derived.Test.YtheabjeppmdmiaaGreatDoorMay
import Derived.Lib.ItoaNum
namespace Go.Proofs.YtheabjeppmdmiaaGreatDoor
open Go.RowKit
set_option linter.unusedVariables false
set_option linter.unusedSimpArgs false
set_option maxHeartbeats 16000000
set_option maxRecDepth 20000
def cW(s:String):List UInt8:=s.toUTF8.data.toList
def mR(n:Int):List UInt8:=Lib.itoa n
def FU(m:Mk):List UInt8:=
 if m=(0,0) then cW "NotApplicable" else if m=(4,0) then cW "Permit" else if m=(0,4) then cW "Deny"
 else if m=(2,0) then cW "Indeterminate"++[123,80,125] else if m=(0,2) then cW "Indeterminate"++[123,68,125] else if m=(2,2) then cW "Indeterminate"++[123,68,80,125] else []
def JX(n:Nat):UInt8:=if n<10 then UInt8.ofNat (48+n) else UInt8.ofNat (87+n)
def uN(c:UInt8):List UInt8:=if fF c then [c] else [92,JX (c.toNat / 16),JX (c.toNat % 16)]
def FV(l:lU):List UInt8:=[34]++l.flatMap uN++[34]
def vN(v:V3):List UInt8:=
 if aT v=false then []
 else if v.1=1 then (if v.2.1=1 then cW "true" else cW "false")
 else if v.1=4 then [64]++mR v.2.1
 else if v.1=5 then [35]++v.2.2.data.toList
 else if v.1=3 then FV v.2.2.data.toList
 else mR v.2.1
def Br(r:Rpl):List UInt8:=
 if r.err=12/\r.mark≠(4,0) then cW "denied "++FU r.mark
 else if r.err≠0/\0<r.at_ then cW "error "++mR r.err++cW " at "++mR r.at_
 else if r.err≠0 then cW "error "++mR r.err
 else if r.aD8=true then cW "glass"
 else if r.hidden=true then cW "hidden"
 else if r.val≠bD then cW "ok "++vN r.val
 else cW "ok"
def FW(r:Rpl):ByteArray:=bs (Br r)
def Uq:ByteArray:=str "what"
def dQ(s:Sto)(q:lU):Sto×ByteArray:=
 match mD q with
 |none=>(s,Uq)
 |some o=>((bZ s o).1,FW (bZ s o).2.1)
theorem ZR{g:List Gv}{p:Po}(h:p.aDV=[]):∀n,kA g n p=p
 |0=>rfl
 |n+1=>by
  obtain⟨a,b,c,d,e,f,k⟩:=p;change f=[] at h;subst h;rfl
theorem Fx{g:List Gv}{p:Po}(h:p.aDV=[])(a:fC p=0):gD g p=(cU g 4 p,0):=by
 unfold gD;rw[iN (fun e=>e a),ZR h];unfold qV;rw[iN (fun e=>e a)]
theorem Rz(s:Sto)(o:Op):uR (lM s o) 2 (str "name")=[sQ (cC o.aDG)]:=by
 unfold lM uR;simp only[List.cons_append];rw[List.find?_cons_of_neg (by unfold lJ oY;simp),List.find?_cons_of_neg (by unfold lJ oY;simp),List.find?_cons_of_pos (by unfold lJ oY;simp)];rfl
theorem Mj{g:List Gv}{a:At}{x y:bY}(hm:a.aEe=false)(b:uR g a.cat a.name=[sQ y]):lY g ⟨a,1,(5,0,x)⟩=if y=x then 2 else 0:=by
 have c:qE g a=([sQ y],0):=by unfold qE;rw[b,iN (fun h=>by cases h.1)]
 unfold lY;dsimp only;rw[c,iN (fun h=>h rfl)];have ha:gZ ⟨a,1,(5,0,x)⟩ (sQ y)=(decide (((5,0,y):V3)=(5,0,x)),0):=by
  unfold gZ sQ;rw[iP rfl,iN (fun h=>h rfl)]
 show (if (gZ ⟨a,1,(5,0,x)⟩ (sQ y)).1=true then 2 else (if (gZ ⟨a,1,(5,0,x)⟩ (sQ y)).2≠0 then 1 else 0))=_;rw[ha,iN (show ¬((0:Int)≠0) by decide)];by_cases h:y=x
 .subst h;simp
 .rw[iN h,dF (fun e=>h (by injection e with _ e;injection e)),iN qe]
theorem Xm(g:List Gv)(m:Ma):rT g [[[m]]]=min 2 (max 0 (min 2 (lY g m))):=rfl
theorem SM(s:Sto)(o:Op):gS s o (4,0)=false:=by
 unfold gS;rw[dF (show ¬((4,0):Mk)=(0,4) by decide),dF (show ¬((4,0):Mk)=(0,0) by decide)];simp
theorem XD(s:Sto)(o:Op):(dA s o).aDT<=s.aDT+1:=by
 unfold dA;dsimp only;have h0:s.aDT<=s.aDT+1:=qo;split
 .exact h0
 split
 .exact h0
 split
 .exact h0
 split
 .exact h0
 split
 .exact h0
 split
 .split<;>exact h0
 split
 .split
  .exact Int.le_refl _
  .exact h0
 split<;>exact h0
theorem SN(s:Sto)(o:Op):(bZ s o).1.aDT<=s.aDT+1:=by
 have h:=pR s o
 rcases b:bZ s o with ⟨t,r,d,e⟩
 rw[b] at h
 cases h with
 |none _ _ he k _=>show s.aDT<=s.aDT+1;omega
 |some m l glass hidden v n j g c i f p=>
  dsimp only;rw[(nC _ _ _ _).2];by_cases a:(decide (m=(4,0))||glass)=true
  .rw[iP a];have h1:=XD (if glass=true then fT s o o.aD4 else s) o;rw[(gV glass s o o.aD4).2] at h1;exact h1
  .rw[iN a,(gV glass s o o.aD4).2];omega
def kW(k:Nat)(s:Sto):Prop:=AS s/\0<=s.aDT/\s.aDT<=(k:Int)
theorem kW.ok{k:Nat}{s:Sto}(h:kW k s):AS s:=h.1
theorem XE:kW 0 kM:=⟨Zz,qe,qe⟩
theorem kW.guard{k:Nat}{s:Sto}(h:kW k s)(o:Op):kW (k+1) (bZ s o).1:=by
 have h1:=(ZA s o).2;have h2:=SN s o;exact⟨(Jy s o h.1).1,qA h.2.1,qA h.2.2⟩
theorem kW.more{k m:Nat}{s:Sto}(h:kW k s)(hm:k<=m):kW m s:=⟨h.1,h.2.1,qA h.2.2⟩
theorem kW.line{k:Nat}{s:Sto}(h:kW k s)(q:lU):kW (k+1) (dQ s q).1:=by
 unfold dQ;split
 .exact h.more qo
 .exact h.guard _
def XF:=(dQ kM (cW "ann new c"))
def XG:=(dQ XF.1 (cW "ann write c f 7"))
def EI:List UInt8:=cW "ann policy policy p first "++[123]++cW " deny d when (action.name = #write); permit r; "++[125]
def XH:=(dQ XG.1 EI)
def XI:=(dQ XH.1 (cW "ann write c f 8"))
def Ml:=(dQ XI.1 (cW "bob read c f"))
theorem qR:XF.2=str "ok"/\XG.2=str "ok"/\XH.2=str "ok"/\XI.2=str "denied Deny"/\Ml.2=str "ok 7":=by
 refine⟨?_,?_,?_,?_,?_⟩<;>kernel_rfl
section
variable {P:Program} {ops:Array Oper} {md:Region.Mode} {C:World->Prop} {Q:Exit->Act->World->Prop}
def qT(listed:Array Bool)(l:List Nat):Array Bool:=l.foldl (fun L i=>L.setIfInBounds i true) listed
theorem RH{n:Nat}{Q:Act->World->Prop}:∀(f:Nat) (listed:Array Bool) (a:Act) (w:World),pB P md ops C n Q f listed a w->pB P md ops C n Q (f+1) listed a w
 |0,listed,a,w,h=>⟨fun _=>h.2,fun i b=>by rw[h.1] at b;cases b⟩
 |f+1,listed,a,w,h=>⟨h.1,fun i b=>TU (fun d w' c=>⟨c.1,RH f _ d w' c.2⟩) (h.2 i b)⟩
theorem Bs{n:Nat}{Q:Act->World->Prop}{f g:Nat}(h:f<=g){listed:Array Bool}{a:Act}{w:World}(b:pB P md ops C n Q f listed a w):pB P md ops C n Q g listed a w:=by
 induction h with
 |refl=>exact b
 |step _ c=>exact RH _ _ _ _ c
def FX(md:Region.Mode)(ops:Array Oper)(n:Nat):List (Nat×Bool)->Array Bool->Bool
 | [],_=>true
 |(k,fl)::r,listed=>(if fl=true then Region.ready md ops listed==[k] else (Region.ready md ops listed).contains k&&Region.free md ops listed k)&&decide (k<n)&&FX md ops n r (listed.setIfInBounds k true)
theorem sK{n F:Nat}{Q R:Act->World->Prop}(m:Region.noSelect ops=true)(l:Region.sinkB md ops n=true)(f:Region.chainB md ops n=true)(g:n<ops.size):∀(H:List (Nat×Bool)) (listed:Array Bool) (a:Act) (w:World),HeadInv md ops n listed->C w->FX md ops n H listed=true->cK P ops C n R H a w->(∀d w',R d w'->C w'->HeadInv md ops n (qT listed (H.map (·.1)))->pB P md ops C n Q F (qT listed (H.map (·.1))) d w')->pB P md ops C n Q (H.length+F) listed a w
 | [],listed,a,w,inv,hw,hB,h,hK=>by
   rw[List.length_nil,Nat.zero_add];exact hK a w h hw inv
 |(k,true)::r,listed,a,w,inv,hw,hB,h,hK=>by
  simp only[FX,if_true,Bool.and_eq_true,bQ,decide_eq_true_eq] at hB;obtain⟨⟨j,c⟩,e⟩:=hB;rw[List.length_cons,show r.length+1+F=(r.length+F)+1 by omega];refine JG j ?_;have t:=inv.set (i:=k) (by rw[j];exact List.mem_singleton.2 rfl) c;unfold cK at h;unfold uZ
  cases b:ops[k]? with
  |none=>simp only[b] at h
  |some o=>
   simp only[b] at h ⊢;unfold mv at h;split
   .rename_i q;rw[iP q] at h;exact tC (fun d w' p=>⟨p.1,sK m l f g r _ d w' t (p.1 c) e p.2 hK⟩) h
   .rename_i q;rw[iN q] at h;exact⟨h.1,sK m l f g r _ _ w t (h.1 c) e h.2 hK⟩
 |(k,false)::r,listed,a,w,inv,hw,hB,h,hK=>by
  simp only[FX,Bool.false_eq_true,if_false,Bool.and_eq_true,decide_eq_true_eq] at hB;obtain⟨⟨⟨j,x⟩,c⟩,e⟩:=hB;have s:k∈Region.ready md ops listed:=by simpa using j
  rw[List.length_cons,show r.length+1+F=(r.length+F)+1 by omega];unfold cK at h
  cases b:ops[k]? with
  |none=>simp only[b] at h
  |some o=>
   simp only[b] at h;obtain⟨v,z,h1,h2⟩:=yieldsAt_of_stOp b ((FE b).2 h);exact KR b (Region.noSelect_spec m) l f g c _ listed a w inv (Region.free_spec b x) s hw
    (fun w1 y=>yieldsAt_of_stOp b ((FE b).2 (h1 w1 y)))
    (sK m l f g r _ _ w (inv.set s c) hw e h2 hK)
def JY(P:Program)(md:Region.Mode)(ops:Array Oper)(C:World->Prop)(n:Nat)(b:Nat->List Nat)(I:Act->World->Prop):Nat->Array Bool->Act->World->Prop
 |0,_,a,w=>I a w
 |g+1,listed,a,w=>∀i∈Region.ready md ops listed,mv P ops ((ops[i]?).getD default) a w (fun c w'=>C w'/\cK P ops C n (fun d e=>JY P md ops C n b I g (qT (listed.setIfInBounds i true) (b i)) d e) ((b i).map (·,false)) c w')
theorem gN{n g:Nat}{b:Nat->List Nat}{I:Act->World->Prop}{listed:Array Bool}{a:Act}{w:World}(L:List Nat)(f:Region.ready md ops listed=L)(h:∀i∈L,∃o,ops[i]? =some o/\∀K:Act->World->Prop,(∀c w',C w'->cK P ops C n (fun e k=>JY P md ops C n b I g (qT (listed.setIfInBounds i true) (b i)) e k) ((b i).map (·,false)) c w'->K c w')->mv P ops o a w K):JY P md ops C n b I (g+1) listed a w:=by
 intro i d;rw[f] at d;obtain⟨o,j,h1⟩:=h i d;rw[j];exact h1 _ (fun c w' h2 h3=>⟨h2,h3⟩)
theorem Sa{p:nP}{i:Nat}{L:List Nat}(h:p i)(a:∀j∈L,p j):∀j∈i::L,p j:=fun j hj=>by
 rcases List.mem_cons.1 hj with rfl|h1
 .exact h
 .exact a j h1
def MN(md:Region.Mode)(ops:Array Oper)(n:Nat)(a:Nat->List Nat)(c:Array Bool):Nat->Nat->Array Bool->Bool
 |0,_,listed=>decide (listed=c)
 |g+1,b,listed=> !(Region.ready md ops listed).isEmpty&&(Region.ready md ops listed).all (fun i=>decide (i<n)&&decide (1+(a i).length<=b)&&(ops[i]?).isSome&&FX md ops n ((a i).map (·,false)) (listed.setIfInBounds i true)&&MN md ops n a c g (b - (1+(a i).length)) (qT (listed.setIfInBounds i true) (a i)))
theorem Bt{n F:Nat}{Q:Act->World->Prop}{c:Nat->List Nat}{l:Array Bool}{I:Act->World->Prop}(B:Region.noSelect ops=true)(A:Region.sinkB md ops n=true)(v:Region.chainB md ops n=true)(y:n<ops.size)(s:∀d w',I d w'->C w'->HeadInv md ops n l->pB P md ops C n Q F l d w'):∀(g b:Nat) (listed:Array Bool) (a:Act) (w:World),HeadInv md ops n listed->C w->MN md ops n c l g b listed=true->JY P md ops C n c I g listed a w->pB P md ops C n Q (b+F) listed a w
 |0,b,listed,a,w,inv,hw,hB,h=>by
  have e:listed=l:=by simpa [MN] using hB
  subst e;exact Bs qo (s a w h hw inv)
 |g+1,b,listed,a,w,inv,hw,hB,h=>by
  simp only[MN,Bool.and_eq_true,Bool.not_eq_true',List.all_eq_true,decide_eq_true_eq] at hB;obtain⟨j,t⟩:=hB;have S:1<=b:=by
   cases z:Region.ready md ops listed with
   |nil=>rw[z] at j;cases j
   |cons i r=>have:=(t i (by rw[z];exact List.mem_cons_self)).1.1.1.2;omega
  obtain⟨f,K⟩:∃f,b+F=f+1:=⟨b+F - 1,qo⟩;rw[K];refine⟨fun h0=>(by rw[h0] at j;cases j),fun i p=> ?_⟩;obtain⟨⟨⟨⟨L,hlen⟩,N⟩,H⟩,G⟩:=t i p;have h1:=h i p;have O:=inv.set (i:=i) p L;obtain⟨o,M⟩:=Option.isSome_iff_exists.1 N;have x:∀(d:Act) (w':World),(C w'/\cK P ops C n (fun D R=>JY P md ops C n c I g (qT (listed.setIfInBounds i true) (c i)) D R) ((c i).map (·,false)) d w')->((i<n->C w')/\pB P md ops C n Q f (listed.setIfInBounds i true) d w'):=fun d w' m=>by
   refine⟨fun _=>m.1,?_⟩;have e:((c i).map (fun k=>(k,false))).map (·.1)=c i:=by rw[List.map_map];exact List.map_id _
   have h2:=sK (F:=b - (1+(c i).length)+F) (Q:=Q) B A v y _ _ d w' O m.1 H m.2 (fun a2 w2 J E inv2=>by
    rw[e] at inv2 ⊢;exact Bt B A v y s g _ _ a2 w2 inv2 E G J)
   refine Bs ?_ h2;rw[List.length_map];omega
  unfold uZ;rw[M] at h1 ⊢;unfold mv at h1;dsimp only[Option.getD_some] at h1 ⊢;split
  .rename_i q;rw[iP q] at h1;exact tC x h1
  .rename_i q;rw[iN q] at h1;exact x _ _ h1
def Ur(md:Region.Mode)(ops:Array Oper)(n:Nat)(H1:List (Nat×Bool))(g b:Nat)(a:Nat->List Nat)(H T:List (Nat×Bool)):Bool:=
 Region.noSelect ops&&decide (n<ops.size)&&Region.sinkB md ops n&&Region.chainB md ops n&&decide (H1.length+(b+(H.length+T.length))=ops.size)&&FX md ops n H1 (Array.replicate ops.size false)&&MN md ops n a (qT (Array.replicate ops.size false) ((H1.map (·.1))++(List.range ops.size).filter (fun i=> !(((H1.map (·.1))++(H.map (·.1))++(T.map (·.1))).contains i)))) g b (qT (Array.replicate ops.size false) (H1.map (·.1)))&&FD md ops n T H (qT (Array.replicate ops.size false) ((H1.map (·.1))++(List.range ops.size).filter (fun i=> !(((H1.map (·.1))++(H.map (·.1))++(T.map (·.1))).contains i))))
theorem MO{id:Nat}{a:Act}{w:World}{l:List Oper}(n:Nat)(H1:List (Nat×Bool))(g b:Nat)(q:Nat->List Nat)(H T:List (Nat×Bool))(C:World->Prop)(I:Act->World->Prop)(hm:P.follows .mixedOrders=true)(m:Ur .any l.toArray n H1 g b q H T=true)(hC:C w.drew)
 (h:cK P l.toArray C n (fun c w'=>C w'->JY P .any l.toArray C n q I g (qT (Array.replicate l.toArray.size false) (H1.map (·.1))) c w') H1 a w.drew)
 (s:∀c w',I c w'->C w'->cK P l.toArray C n (fun a w=>Q .normal a w) (H++T) c w'):(Code.region id l.toArray true).wp P Q a w:=by
 simp only[Ur,Bool.and_eq_true,decide_eq_true_eq] at m;obtain⟨⟨⟨⟨⟨⟨⟨k,f⟩,i⟩,e⟩,d⟩,v⟩,r⟩,y⟩:=m;have B:HeadInv .any l.toArray n (Array.replicate l.toArray.size false):=
  ⟨qs,fun j D _ d=>(by rw[getD_replicate_false] at d;cases d),fun t _ z=>getD_in (by simpa using z) (getD_replicate_false _ _)⟩
 have h1:=sK (md:= .any) (F:=b+(H.length+T.length)) (Q:=fun a w=>Q .normal a w) k i e f H1 _ a w.drew B hC v h (fun c w' x o A=>Bt k i e f (fun a2 w2 h2 p inv2=>uE (md:= .any) k i e f H _ a2 w2 inv2 p y (s a2 w2 h2 p)) g b _ c w' A o r (x o));rw[d] at h1;exact wp_region_any hm (xZ _ _ _ _ h1)
end
end Go.Proofs.YtheabjeppmdmiaaGreatDoor
