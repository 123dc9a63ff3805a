/- Lemmas. -/
import Derived.Test.YthcgdgkpgdjahaaGreatDoorMbn
namespace Go.Proofs.YthcgdgkpgdjahaaGreatDoor
open Go.RowKit
set_option linter.unusedVariables false
set_option linter.unusedSimpArgs false
set_option maxHeartbeats 16000000
set_option maxRecDepth 20000
theorem Af{g:List Gv}{p:Po}(h:p.aD2=[]):∀n,kD g n p=p
 |0=>rfl
 |n+1=>by
  obtain⟨a,b,c,d,e,f,k⟩:=p;change f=[] at h;subst h;rfl
theorem Gr{g:List Gv}{p:Po}(h:p.aD2=[])(a:fE p=0):gN g p=(cY g 4 p,0):=by
 unfold gN;rw[iN (fun e=>e a),Af h];unfold rA;rw[iN (fun e=>e a)]
theorem CF(s:Sto)(o:Op):jM s o (4,0)=false:=by
 unfold jM;rw[dF (show ¬((4,0):Mk)=(0,4) by decide),dF (show ¬((4,0):Mk)=(0,0) by decide)];simp
theorem Ag{s:Sto}{o:Op}(h:o.aDN≠7):(cT s o).aDP=s.aDP/\(cT s o).aD0=s.aD0:=by
 unfold cT;by_cases h0:dJ s o=0
 .rw[iN (fun h=>h h0)];dsimp only;by_cases h1:o.aDN=1
  .rw[iP h1];exact⟨rfl,rfl⟩
  rw[iN h1];by_cases h3:o.aDN=3
  .rw[iP h3];exact⟨rfl,rfl⟩
  rw[iN h3];by_cases h4:o.aDN=4
  .rw[iP h4];exact⟨rfl,rfl⟩
  rw[iN h4];by_cases h5:o.aDN=5
  .rw[iP h5];exact⟨rfl,rfl⟩
  rw[iN h5];by_cases h6:o.aDN=6
  .rw[iP h6];split<;>exact⟨rfl,rfl⟩
  rw[iN h6,iN h];by_cases h8:o.aDN=8
  .rw[iP h8];exact⟨rfl,rfl⟩
  rw[iN h8];exact⟨rfl,rfl⟩
 .rw[iP h0];exact⟨rfl,rfl⟩
theorem Gs(o:Op)(d:Bool)(s:Sto)(a:bY):[(⟨1,2,a⟩:Ob)].foldl (cU o d) s=s:=by
 show cU o d s ⟨1,2,a⟩=s;unfold cU;rw[iN (fun h=>absurd h.1 (show ¬(2:Int)=1 by decide)),iN (show ¬(2:Int)=3 by decide),iN (show ¬(2:Int)=4 by decide)]
def qX:ByteArray:=str "secret_of_case_"
def iW:Po:= .mk (str "p") false 6 [] [⟨str "r",false,[],[],[⟨1,2,qX⟩]⟩] [] []
theorem XN:fE iW=0:=by kernel_rfl
theorem EM(g:List Gv):gN g iW=(((4,0),[⟨1,2,qX⟩]),0):=by
 rw[Gr rfl XN];rfl
def TG:V3:=(2,0,ByteArray.empty)
def gH(f:ByteArray×V3):ByteArray×V3:=if f.1=qX/\f.2≠aY then (f.1,TG) else f
def gI(c:cB):cB:={c with aDT:=c.aDT.map gH}
def dV(s:Sto):Sto:={s with aDO:=s.aDO.map gI}
theorem BJ(f:ByteArray×V3):(gH f).1=f.1:=by unfold gH;split<;>rfl
theorem XO:TG≠aY:=fun h=>by
 have h1:(2:Int)=0:=congrArg Prod.fst h;omega
theorem Gt(f:ByteArray×V3):(gH f).2=aY↔f.2=aY:=by
 unfold gH;split
 .rename_i h;exact⟨fun e=>absurd e XO,fun e=>absurd e h.2⟩
 .exact Iff.rfl
theorem Ah{f:ByteArray×V3}(h:f.1≠qX):gH f=f:=by unfold gH;rw[iN (fun e=>h e.1)]
theorem Ai(f:ByteArray×V3):gH (gH f)=gH f:=by
 by_cases h:f.1=qX/\f.2≠aY
 .have h1:gH f=(f.1,TG):=by unfold gH;rw[iP h]
  rw[h1];unfold gH;rw[iP ⟨h.1,XO⟩]
 .have h1:gH f=f:=by unfold gH;rw[iN h]
  rw[h1,h1]
theorem uU(l:List (ByteArray×V3)):(l.map gH).map gH=l.map gH:=by
 rw[List.map_map];exact List.map_congr_left (fun f _=>Ai f)
theorem Aj(c:cB):gI (gI c)=gI c:=by unfold gI;dsimp only;rw[uU]
theorem pP(l:List cB):(l.map gI).map gI=l.map gI:=by
 rw[List.map_map];exact List.map_congr_left (fun c _=>Aj c)
theorem EN(s:Sto)(id:bY):aV (dV s) id=aV s id:=by
 unfold aV dV;dsimp only;rw[List.findIdx_map,List.length_map,List.getElem?_map];show (if s.aDO.findIdx (fun c=>fK id c.id)<s.aDO.length then (s.aDO.findIdx (fun c=>fK id c.id),decide (((s.aDO[s.aDO.findIdx (fun c=>fK id c.id)]?).map gI).map (·.id)=some id)) else (s.aDO.length,false))=_;rw[Option.map_map];rfl
theorem RO(s:Sto)(id:bY):dU (dV s) id=(dU s id).map gI:=by
 unfold dU;rw[EN];split
 .show (s.aDO.map gI)[_]? =_;rw[List.getElem?_map]
 .rfl
theorem MR(c:cB)(name:bY):eB (gI c) name=(((c.aDT.find? (fun f=>decide (f.1=name))).map gH).map (·.2)).getD aY:=by
 unfold eB gI;dsimp only;rw[List.find?_map];have:((fun f:ByteArray×V3=>decide (f.1=name)) ∘ gH)=fun f=>decide (f.1=name):=funext fun f=>by
  show decide ((gH f).1=name)=_;rw[BJ]
 rw[this]
theorem MS(c:cB)(name:bY):eB (gI c) name=aY↔eB c name=aY:=by
 rw[MR];unfold eB
 cases c.aDT.find? (fun f=>decide (f.1=name)) with
 |none=>exact Iff.rfl
 |some f=>exact Gt f
theorem KF(c:cB){name:bY}(h:name≠qX):eB (gI c) name=eB c name:=by
 rw[MR];unfold eB
 cases a:c.aDT.find? (fun f=>decide (f.1=name)) with
 |none=>rfl
 |some f=>
  have h0:=List.find?_some a;have h1:f.1=name:=by simpa using h0
  show (gH f).2=f.2;rw[Ah (by rw[h1];exact h)]
theorem MT(s:Sto)(o:Op):gC (dV s) o=gC s o:=by
 unfold gC;rw[RO]
 cases dU s o.aDU with
 |none=>rfl
 |some c=>
  have h1:(gI c).aDT.length=c.aDT.length:=List.length_map ..;have h2:(gI c).log=c.log:=rfl;have h3:(gI c).aD9=c.aD9:=rfl;dsimp only[Option.map];rw[h1,h2,h3];simp only[MS]
theorem MU(s:Sto)(o:Op):dJ (dV s) o=dJ s o:=by
 unfold dJ;rw[EN,MT];have h1:(dV s).aDO.length=s.aDO.length:=List.length_map ..;rw[h1];rfl
theorem St(l:List (ByteArray×V3))(name:bY)(v:V3):(lP (l.map gH) name v).map gH=(lP l name v).map gH:=by
 unfold lP;dsimp only;have h1:(l.map gH).findIdx (fun f=>fK name f.1)=l.findIdx (fun f=>fK name f.1):=by
  rw[List.findIdx_map];have:((fun f:ByteArray×V3=>fK name f.1) ∘ gH)=fun f=>fK name f.1:=funext fun f=>by
   show fK name (gH f).1=_;rw[BJ]
  rw[this]
 rw[h1,List.getElem?_map]
 cases l[l.findIdx (fun f=>fK name f.1)]? with
 |none=>
  dsimp only[Option.map];rw[List.map_append,List.map_append,uU]
 |some f=>
  dsimp only[Option.map];rw[BJ];split
  .rw[List.map_set,List.map_set,uU]
  .simp only[List.map_append,List.map_take,List.map_drop,uU]
theorem Gu(c:cB)(name:bY)(v:V3):gI (mD (gI c) name v)=gI (mD c name v):=by
 rw[lB,lB];unfold gI;dsimp only;rw[St]
theorem Cj(s:Sto)(i:Nat)(f g:cB->cB)(h:∀c,gI (f (gI c))=gI (g c)):dV (eQ (dV s) i f)=dV (eQ s i g):=by
 unfold eQ dV;dsimp only;rw[List.getElem?_map]
 cases s.aDO[i]? with
 |none=>dsimp only[Option.map];rw[pP]
 |some c=>
  dsimp only[Option.map];rw[List.map_set,List.map_set,pP,h]
theorem qY(s:Sto):dV (dV s)=dV s:=by unfold dV;dsimp only;rw[pP]
theorem RP(s:Sto)(o:Op)(h7:o.aDN≠7):dV (cT (dV s) o)=dV (cT s o):=by
 unfold cT;rw[MU,EN];by_cases h0:dJ s o=0
 .rw[iN (show ¬(dJ s o≠0) from fun h=>h h0),iN (show ¬(dJ s o≠0) from fun h=>h h0)];dsimp only;by_cases h1:o.aDN=1
  .rw[iP h1,iP h1];unfold dV;dsimp only;simp only[List.map_append,List.map_take,List.map_drop,pP,List.map_cons,List.map_nil];rfl
  rw[iN h1,iN h1];by_cases h3:o.aDN=3
  .rw[iP h3,iP h3];refine Cj s _ _ _ (fun c=> ?_);show (⟨_,_,_,_,_⟩:cB)=⟨_,_,_,_,_⟩;have hw:=Gu c o.aD7 o.val;rw[lB,lB] at hw;rw[lB,lB];unfold gI nA at *;dsimp only at *;injection hw with _ _ _ hw _;rw[hw];rfl
  rw[iN h3,iN h3];by_cases h4:o.aDN=4
  .rw[iP h4,iP h4];refine Cj s _ _ _ (fun c=> ?_);unfold gI nA;dsimp only;rw[uU];rfl
  rw[iN h4,iN h4];by_cases h5:o.aDN=5
  .rw[iP h5,iP h5];unfold dV;dsimp only;rw[pP]
  rw[iN h5,iN h5];by_cases h6:o.aDN=6
  .rw[iP h6,iP h6];have h8:qL (dV s) o.aDU o.aD7=qL s o.aDU o.aD7:=rfl;rw[h8];split
   .exact qY s
   .unfold dV;dsimp only;rw[pP]
  rw[iN h6,iN h6,iN h7,iN h7];by_cases h8:o.aDN=8
  .rw[iP h8,iP h8];unfold dV;dsimp only;rw[pP]
  rw[iN h8,iN h8];exact qY s
 .rw[iP h0,iP h0];exact qY s
theorem RQ(s:Sto):kF (dV s)=kF s:=by
 unfold kF dV;dsimp only;rw[List.any_map];rfl
theorem Ni{s t:Sto}(h:dV s=dV t):kF s=kF t:=by rw[<-RQ s,<-RQ t,h]
theorem yK{s:Sto}(o:Op)(hp:s.aDP=iW)(h7:o.aDN≠7):(bO (dV s) o).2.1=(bO s o).2.1/\dV (bO (dV s) o).1=dV (bO s o).1/\(bO s o).1.aDP=iW:=by
 rw[AE,AE];have e:pF (dV s) o=pF s o:=by unfold pF;rw[MU]
 rw[e];by_cases h0:(pF s o).1=0
 .rw[iN (fun h=>h h0),iN (fun h=>h h0)];unfold Jb;have g:(dV s).aDP=iW:=hp;rw[hp,g,EM,EM];dsimp only;rw[CF,CF];simp only[ne_eq,not_true_eq_false,if_false,decide_true,Bool.or_false,Bool.true_and,if_true,Bool.false_eq_true,Gs];have f:kF (cT (dV s) o)=kF (cT s o):=Ni (RP s o h7);rw[f];have i:(if (decide (o.aDN=2)&& !(decide (o.aDN=2)&&[(⟨1,2,qX⟩:Ob)].any (fun x=>decide (x.aDN=2)&&decide (x.arg=o.aD7))))=true then ((dU (dV s) o.aDU).map (fun c=>eB c o.aD7)).getD aY else aY)=(if (decide (o.aDN=2)&& !(decide (o.aDN=2)&&[(⟨1,2,qX⟩:Ob)].any (fun x=>decide (x.aDN=2)&&decide (x.arg=o.aD7))))=true then ((dU s o.aDU).map (fun c=>eB c o.aD7)).getD aY else aY):=by
   by_cases b:o.aD7=qX
   .have d:[(⟨1,2,qX⟩:Ob)].any (fun x=>decide (x.aDN=2)&&decide (x.arg=o.aD7))=true:=by rw[b];simp
    rw[d,iN (by cases decide (o.aDN=2)<;>simp),iN (by cases decide (o.aDN=2)<;>simp)]
   .rw[RO]
    cases dU s o.aDU with
    |none=>rfl
    |some c=>
     dsimp only[Option.map,Option.getD];rw[KF c b]
  by_cases a:kF (cT s o)=true
  .rw[iP a,iP a];exact⟨rfl,qY s,hp⟩
  .rw[iN a,iN a];refine⟨?_,RP s o h7,(Ag h7).1.trans hp⟩;dsimp only;rw[i]
 .rw[iP h0,iP h0];exact⟨rfl,qY s,hp⟩
theorem Gw{s t:Sto}(o:Op)(c:s.aDP=iW)(d:t.aDP=iW)(h7:o.aDN≠7)(h:dV s=dV t):(bO s o).2.1=(bO t o).2.1/\dV (bO s o).1=dV (bO t o).1/\(bO s o).1.aDP=iW/\(bO t o).1.aDP=iW:=by
 obtain⟨a,a2,a3⟩:=yK o c h7;obtain⟨b1,b2,b⟩:=yK o d h7;rw[<-a,<-a2,<-b1,<-b2,h];exact⟨rfl,rfl,a3,b⟩
theorem XP(s:Sto)(o:Op):(cT s o).aD0<=s.aD0+1:=by
 unfold cT;dsimp only;have h0:s.aD0<=s.aD0+1:=qo;split
 .exact h0
 split
 .exact h0
 split
 .exact h0
 split
 .exact h0
 split
 .exact h0
 split
 .split<;>exact h0
 split
 .split
  .exact Int.le_refl _
  .exact h0
 split<;>exact h0
theorem SU(s:Sto)(o:Op):(bO s o).1.aD0<=s.aD0+1:=by
 have h:=pU s o
 rcases b:bO s o with ⟨t,r,d,e⟩
 rw[b] at h
 cases h with
 |none _ _ he k _=>show s.aD0<=s.aD0+1;omega
 |some m l glass hidden v n j g c i f p=>
  dsimp only;rw[(nF _ _ _ _).2];by_cases a:(decide (m=(4,0))||glass)=true
  .rw[iP a];have h1:=XP (if glass=true then gG s o o.aEc else s) o;rw[(gY glass s o o.aEc).2] at h1;exact h1
  .rw[iN a,(gY glass s o o.aEc).2];omega
def jD(k:Nat)(s:Sto):Prop:=AT s/\0<=s.aD0/\s.aD0<=(k:Int)
theorem jD.ok{k:Nat}{s:Sto}(h:jD k s):AT s:=h.1
theorem XQ:jD 0 jG:=⟨aAi,qe,qe⟩
theorem jD.guard{k:Nat}{s:Sto}(h:jD k s)(o:Op):jD (k+1) (bO s o).1:=by
 have h1:=(ZO s o).2;have h2:=SU s o;exact⟨(Kw s o h.1).1,qA h.2.1,qA h.2.2⟩
theorem jD.more{k m:Nat}{s:Sto}(h:jD k s)(hm:k<=m):jD m s:=⟨h.1,h.2.1,qA h.2.2⟩
theorem jD.line{k:Nat}{s:Sto}(h:jD k s)(q:lU):jD (k+1) (dN s q).1:=by
 unfold dN;split
 .exact h.more qo
 .exact h.guard _
def sR:=(dN jG (eL "ann new c"))
def XR:=(dN sR.1 (eL "ann write c f 7"))
def EO:List UInt8:=eL "ann policy policy p first "++[123]++eL " deny d when (action.name = #write); permit r; "++[125]
def XS:=(dN XR.1 EO)
def XT:=(dN XS.1 (eL "ann write c f 8"))
def Nj:=(dN XT.1 (eL "bob read c f"))
theorem oN:sR.2=str "ok"/\XR.2=str "ok"/\XS.2=str "ok"/\XT.2=str "denied Deny"/\Nj.2=str "ok 7":=by
 refine⟨?_,?_,?_,?_,?_⟩<;>kernel_rfl
def Xy:=dN sR.1 (eL "ann policy policy p permitunless "++[123]++eL " permit r on permit redact secret_of_case_; "++[125])
section
variable {P:Program} {ops:Array Oper} {md:Region.Mode} {C:World->Prop} {Q:Exit->Act->World->Prop}
def qZ(listed:Array Bool)(l:List Nat):Array Bool:=l.foldl (fun L i=>L.setIfInBounds i true) listed
theorem RR{n:Nat}{Q:Act->World->Prop}:∀(f:Nat) (listed:Array Bool) (a:Act) (w:World),pE P md ops C n Q f listed a w->pE P md ops C n Q (f+1) listed a w
 |0,listed,a,w,h=>⟨fun _=>h.2,fun i b=>by rw[h.1] at b;cases b⟩
 |f+1,listed,a,w,h=>⟨h.1,fun i b=>UF (fun d w' c=>⟨c.1,RR f _ d w' c.2⟩) (h.2 i b)⟩
theorem Ck{n:Nat}{Q:Act->World->Prop}{f g:Nat}(h:f<=g){listed:Array Bool}{a:Act}{w:World}(b:pE P md ops C n Q f listed a w):pE P md ops C n Q g listed a w:=by
 induction h with
 |refl=>exact b
 |step _ c=>exact RR _ _ _ _ c
def GG(md:Region.Mode)(ops:Array Oper)(n:Nat):List (Nat×Bool)->Array Bool->Bool
 | [],_=>true
 |(k,fl)::r,listed=>(if fl=true then Region.ready md ops listed==[k] else (Region.ready md ops listed).contains k&&Region.free md ops listed k)&&decide (k<n)&&GG md ops n r (listed.setIfInBounds k true)
theorem sS{n F:Nat}{Q R:Act->World->Prop}(m:Region.noSelect ops=true)(l:Region.sinkB md ops n=true)(f:Region.chainB md ops n=true)(g:n<ops.size):∀(H:List (Nat×Bool)) (listed:Array Bool) (a:Act) (w:World),HeadInv md ops n listed->C w->GG md ops n H listed=true->cJ P ops C n R H a w->(∀d w',R d w'->C w'->HeadInv md ops n (qZ listed (H.map (·.1)))->pE P md ops C n Q F (qZ listed (H.map (·.1))) d w')->pE P md ops C n Q (H.length+F) listed a w
 | [],listed,a,w,inv,hw,hB,h,hK=>by
   rw[List.length_nil,Nat.zero_add];exact hK a w h hw inv
 |(k,true)::r,listed,a,w,inv,hw,hB,h,hK=>by
  simp only[GG,if_true,Bool.and_eq_true,bQ,decide_eq_true_eq] at hB;obtain⟨⟨j,c⟩,e⟩:=hB;rw[List.length_cons,show r.length+1+F=(r.length+F)+1 by omega];refine JN j ?_;have t:=inv.set (i:=k) (by rw[j];exact List.mem_singleton.2 rfl) c;unfold cJ at h;unfold vE
  cases b:ops[k]? with
  |none=>simp only[b] at h
  |some o=>
   simp only[b] at h ⊢;unfold mv at h;split
   .rename_i q;rw[iP q] at h;exact tH (fun d w' p=>⟨p.1,sS m l f g r _ d w' t (p.1 c) e p.2 hK⟩) h
   .rename_i q;rw[iN q] at h;exact⟨h.1,sS m l f g r _ _ w t (h.1 c) e h.2 hK⟩
 |(k,false)::r,listed,a,w,inv,hw,hB,h,hK=>by
  simp only[GG,Bool.false_eq_true,if_false,Bool.and_eq_true,decide_eq_true_eq] at hB;obtain⟨⟨⟨j,x⟩,c⟩,e⟩:=hB;have s:k∈Region.ready md ops listed:=by simpa using j
  rw[List.length_cons,show r.length+1+F=(r.length+F)+1 by omega];unfold cJ at h
  cases b:ops[k]? with
  |none=>simp only[b] at h
  |some o=>
   simp only[b] at h;obtain⟨v,z,h1,h2⟩:=yieldsAt_of_stOp b ((FL b).2 h);exact KV b (Region.noSelect_spec m) l f g c _ listed a w inv (Region.free_spec b x) s hw
    (fun w1 y=>yieldsAt_of_stOp b ((FL b).2 (h1 w1 y)))
    (sS m l f g r _ _ w (inv.set s c) hw e h2 hK)
def KG(P:Program)(md:Region.Mode)(ops:Array Oper)(C:World->Prop)(n:Nat)(b:Nat->List Nat)(I:Act->World->Prop):Nat->Array Bool->Act->World->Prop
 |0,_,a,w=>I a w
 |g+1,listed,a,w=>∀i∈Region.ready md ops listed,mv P ops ((ops[i]?).getD default) a w (fun c w'=>C w'/\cJ P ops C n (fun d e=>KG P md ops C n b I g (qZ (listed.setIfInBounds i true) (b i)) d e) ((b i).map (·,false)) c w')
theorem gQ{n g:Nat}{b:Nat->List Nat}{I:Act->World->Prop}{listed:Array Bool}{a:Act}{w:World}(L:List Nat)(f:Region.ready md ops listed=L)(h:∀i∈L,∃o,ops[i]? =some o/\∀K:Act->World->Prop,(∀c w',C w'->cJ P ops C n (fun e k=>KG P md ops C n b I g (qZ (listed.setIfInBounds i true) (b i)) e k) ((b i).map (·,false)) c w'->K c w')->mv P ops o a w K):KG P md ops C n b I (g+1) listed a w:=by
 intro i d;rw[f] at d;obtain⟨o,j,h1⟩:=h i d;rw[j];exact h1 _ (fun c w' h2 h3=>⟨h2,h3⟩)
theorem Su{p:nP}{i:Nat}{L:List Nat}(h:p i)(a:∀j∈L,p j):∀j∈i::L,p j:=fun j hj=>by
 rcases List.mem_cons.1 hj with rfl|h1
 .exact h
 .exact a j h1
def MV(md:Region.Mode)(ops:Array Oper)(n:Nat)(a:Nat->List Nat)(c:Array Bool):Nat->Nat->Array Bool->Bool
 |0,_,listed=>decide (listed=c)
 |g+1,b,listed=> !(Region.ready md ops listed).isEmpty&&(Region.ready md ops listed).all (fun i=>decide (i<n)&&decide (1+(a i).length<=b)&&(ops[i]?).isSome&&GG md ops n ((a i).map (·,false)) (listed.setIfInBounds i true)&&MV md ops n a c g (b - (1+(a i).length)) (qZ (listed.setIfInBounds i true) (a i)))
theorem Cl{n F:Nat}{Q:Act->World->Prop}{c:Nat->List Nat}{l:Array Bool}{I:Act->World->Prop}(B:Region.noSelect ops=true)(A:Region.sinkB md ops n=true)(v:Region.chainB md ops n=true)(y:n<ops.size)(s:∀d w',I d w'->C w'->HeadInv md ops n l->pE P md ops C n Q F l d w'):∀(g b:Nat) (listed:Array Bool) (a:Act) (w:World),HeadInv md ops n listed->C w->MV md ops n c l g b listed=true->KG P md ops C n c I g listed a w->pE P md ops C n Q (b+F) listed a w
 |0,b,listed,a,w,inv,hw,hB,h=>by
  have e:listed=l:=by simpa [MV] using hB
  subst e;exact Ck qo (s a w h hw inv)
 |g+1,b,listed,a,w,inv,hw,hB,h=>by
  simp only[MV,Bool.and_eq_true,Bool.not_eq_true',List.all_eq_true,decide_eq_true_eq] at hB;obtain⟨j,t⟩:=hB;have S:1<=b:=by
   cases z:Region.ready md ops listed with
   |nil=>rw[z] at j;cases j
   |cons i r=>have:=(t i (by rw[z];exact List.mem_cons_self)).1.1.1.2;omega
  obtain⟨f,K⟩:∃f,b+F=f+1:=⟨b+F - 1,qo⟩;rw[K];refine⟨fun h0=>(by rw[h0] at j;cases j),fun i p=> ?_⟩;obtain⟨⟨⟨⟨L,hlen⟩,N⟩,H⟩,G⟩:=t i p;have h1:=h i p;have O:=inv.set (i:=i) p L;obtain⟨o,M⟩:=Option.isSome_iff_exists.1 N;have x:∀(d:Act) (w':World),(C w'/\cJ P ops C n (fun D R=>KG P md ops C n c I g (qZ (listed.setIfInBounds i true) (c i)) D R) ((c i).map (·,false)) d w')->((i<n->C w')/\pE P md ops C n Q f (listed.setIfInBounds i true) d w'):=fun d w' m=>by
   refine⟨fun _=>m.1,?_⟩;have e:((c i).map (fun k=>(k,false))).map (·.1)=c i:=by rw[List.map_map];exact List.map_id _
   have h2:=sS (F:=b - (1+(c i).length)+F) (Q:=Q) B A v y _ _ d w' O m.1 H m.2 (fun a2 w2 J E inv2=>by
    rw[e] at inv2 ⊢;exact Cl B A v y s g _ _ a2 w2 inv2 E G J)
   refine Ck ?_ h2;rw[List.length_map];omega
  unfold vE;rw[M] at h1 ⊢;unfold mv at h1;dsimp only[Option.getD_some] at h1 ⊢;split
  .rename_i q;rw[iP q] at h1;exact tH x h1
  .rename_i q;rw[iN q] at h1;exact x _ _ h1
def Vg(md:Region.Mode)(ops:Array Oper)(n:Nat)(H1:List (Nat×Bool))(g b:Nat)(a:Nat->List Nat)(H T:List (Nat×Bool)):Bool:=
 Region.noSelect ops&&decide (n<ops.size)&&Region.sinkB md ops n&&Region.chainB md ops n&&decide (H1.length+(b+(H.length+T.length))=ops.size)&&GG md ops n H1 (Array.replicate ops.size false)&&MV md ops n a (qZ (Array.replicate ops.size false) ((H1.map (·.1))++(List.range ops.size).filter (fun i=> !(((H1.map (·.1))++(H.map (·.1))++(T.map (·.1))).contains i)))) g b (qZ (Array.replicate ops.size false) (H1.map (·.1)))&&FK md ops n T H (qZ (Array.replicate ops.size false) ((H1.map (·.1))++(List.range ops.size).filter (fun i=> !(((H1.map (·.1))++(H.map (·.1))++(T.map (·.1))).contains i))))
theorem MW{id:Nat}{a:Act}{w:World}{l:List Oper}(n:Nat)(H1:List (Nat×Bool))(g b:Nat)(q:Nat->List Nat)(H T:List (Nat×Bool))(C:World->Prop)(I:Act->World->Prop)(hm:P.follows .mixedOrders=true)(m:Vg .any l.toArray n H1 g b q H T=true)(hC:C w.drew)
 (h:cJ P l.toArray C n (fun c w'=>C w'->KG P .any l.toArray C n q I g (qZ (Array.replicate l.toArray.size false) (H1.map (·.1))) c w') H1 a w.drew)
 (s:∀c w',I c w'->C w'->cJ P l.toArray C n (fun a w=>Q .normal a w) (H++T) c w'):(Code.region id l.toArray true).wp P Q a w:=by
 simp only[Vg,Bool.and_eq_true,decide_eq_true_eq] at m;obtain⟨⟨⟨⟨⟨⟨⟨k,f⟩,i⟩,e⟩,d⟩,v⟩,r⟩,y⟩:=m;have B:HeadInv .any l.toArray n (Array.replicate l.toArray.size false):=
  ⟨qs,fun j D _ d=>(by rw[getD_replicate_false] at d;cases d),fun t _ z=>getD_in (by simpa using z) (getD_replicate_false _ _)⟩
 have h1:=sS (md:= .any) (F:=b+(H.length+T.length)) (Q:=fun a w=>Q .normal a w) k i e f H1 _ a w.drew B hC v h (fun c w' x o A=>Cl k i e f (fun a2 w2 h2 p inv2=>uK (md:= .any) k i e f H _ a2 w2 inv2 p y (s a2 w2 h2 p)) g b _ c w' A o r (x o));rw[d] at h1;exact wp_region_any hm (yA _ _ _ _ h1)
end
end Go.Proofs.YthcgdgkpgdjahaaGreatDoor
