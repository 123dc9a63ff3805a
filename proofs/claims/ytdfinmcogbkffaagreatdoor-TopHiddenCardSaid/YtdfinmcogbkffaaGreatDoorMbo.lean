/- Lemmas. -/
import Derived.Test.YtdfinmcogbkffaaGreatDoorMay
import Derived.Lib.ItoaNum
namespace Go.Proofs.YtdfinmcogbkffaaGreatDoor
open Go.RowKit
set_option linter.unusedVariables false
set_option linter.unusedSimpArgs false
set_option maxHeartbeats 16000000
set_option maxRecDepth 20000
def cX(s:String):List UInt8:=s.toUTF8.data.toList
def mM(n:Int):List UInt8:=Lib.itoa n
def FJ(m:Mk):List UInt8:=
 if m=(0,0) then cX "NotApplicable" else if m=(4,0) then cX "Permit" else if m=(0,4) then cX "Deny"
 else if m=(2,0) then cX "Indeterminate"++[123,80,125] else if m=(0,2) then cX "Indeterminate"++[123,68,125] else if m=(2,2) then cX "Indeterminate"++[123,68,80,125] else []
def JL(n:Nat):UInt8:=if n<10 then UInt8.ofNat (48+n) else UInt8.ofNat (87+n)
def uN(c:UInt8):List UInt8:=if fF c then [c] else [92,JL (c.toNat / 16),JL (c.toNat % 16)]
def FK(l:lU):List UInt8:=[34]++l.flatMap uN++[34]
def vN(v:V3):List UInt8:=
 if aT v=false then []
 else if v.1=1 then (if v.2.1=1 then cX "true" else cX "false")
 else if v.1=4 then [64]++mM v.2.1
 else if v.1=5 then [35]++v.2.2.data.toList
 else if v.1=3 then FK v.2.2.data.toList
 else mM v.2.1
def NS(r:Rpl):List UInt8:=
 if r.err=12/\r.mark≠(4,0) then cX "denied "++FJ r.mark
 else if r.err≠0/\0<r.at_ then cX "error "++mM r.err++cX " at "++mM r.at_
 else if r.err≠0 then cX "error "++mM r.err
 else if r.aD1=true then cX "glass"
 else if r.hidden=true then cX "hidden"
 else if r.val≠bD then cX "ok "++vN r.val
 else cX "ok"
def rK(r:Rpl):ByteArray:=bs (NS r)
def Up:ByteArray:=str "what"
def eN(s:Sto)(q:lU):Sto×ByteArray:=
 match iT q with
 |none=>(s,Up)
 |some o=>((cK s o).1,rK (cK s o).2.1)
theorem aAm(s:String):str s=bs (cX s):=by unfold str cX bs;rw[Array.toArray_toList]
theorem ZL{g:List Gv}{p:Po}(h:p.aDN=[]):∀n,jY g n p=p
 |0=>rfl
 |n+1=>by
  obtain⟨a,b,c,d,e,f,k⟩:=p;change f=[] at h;subst h;rfl
theorem Ft{g:List Gv}{p:Po}(h:p.aDN=[])(a:fA p=0):gI g p=(cT g 4 p,0):=by
 unfold gI;rw[iN (fun e=>e a),ZL h];unfold qQ;rw[iN (fun e=>e a)]
def nV:Po:= .mk (str "p") false 1 [] [⟨str "q",true,[[[⟨⟨2,str "name",false⟩,1,(5,0,str "policy")⟩]]],[],[]⟩,⟨str "r",false,[],[],[⟨1,2,str "f"⟩]⟩] [] []
theorem WT:fA nV=0:=by kernel_rfl
theorem Rw(s:Sto)(o:Op):uR (mJ s o) 2 (str "name")=[sO (cF o.aDy)]:=by
 unfold mJ uR;simp only[List.cons_append];rw[List.find?_cons_of_neg (by unfold lF oU;simp),List.find?_cons_of_neg (by unfold lF oU;simp),List.find?_cons_of_pos (by unfold lF oU;simp)];rfl
theorem Mj{g:List Gv}{a:At}{x y:bY}(hm:a.aD6=false)(b:uR g a.cat a.name=[sO y]):lS g ⟨a,1,(5,0,x)⟩=if y=x then 2 else 0:=by
 have c:pX g a=([sO y],0):=by unfold pX;rw[b,iN (fun h=>by cases h.1)]
 unfold lS;dsimp only;rw[c,iN (fun h=>h rfl)];have ha:gW ⟨a,1,(5,0,x)⟩ (sO y)=(decide (((5,0,y):V3)=(5,0,x)),0):=by
  unfold gW sO;rw[iP rfl,iN (fun h=>h rfl)]
 show (if (gW ⟨a,1,(5,0,x)⟩ (sO y)).1=true then 2 else (if (gW ⟨a,1,(5,0,x)⟩ (sO y)).2≠0 then 1 else 0))=_;rw[ha,iN (show ¬((0:Int)≠0) by decide)];by_cases h:y=x
 .subst h;simp
 .rw[iN h,dF (fun e=>h (by injection e with _ e;injection e)),iN qe]
theorem BS(k:Int):cF k=str "policy"↔k=7:=by
 by_cases h:k<1\/7<k
 .unfold cF;rw[iP h];exact⟨fun e=>absurd e (by decide +kernel),fun e=>by omega⟩
 .exact Za
theorem Xj(g:List Gv)(m:Ma):rP g [[[m]]]=min 2 (max 0 (min 2 (lS g m))):=rfl
theorem Fu(s:Sto)(o:Op):rP (mJ s o) [[[⟨⟨2,str "name",false⟩,1,(5,0,str "policy")⟩]]]=if o.aDy=7 then 2 else 0:=by
 rw[Xj,Mj rfl (Rw s o)];by_cases h:o.aDy=7
 .rw[iP h,iP ((BS _).2 h)];rfl
 .rw[iN h,iN (fun e=>h ((BS _).1 e))];rfl
theorem DZ(s:Sto)(o:Op):gI (mJ s o) nV=if o.aDy=7 then (((0,4),[]),0) else (((4,0),[⟨1,2,str "f"⟩]),0):=by
 rw[Ft rfl WT];have h1:=Fu s o;generalize mJ s o=g at *;show (cT g 4 nV,0)=_;unfold cT nV;dsimp only[Po.aDJ,Po.aDB,Po.aDN,Po.aDP,Po.alg,List.map];rw[show rP g []=2 from rfl,iN qe];unfold gZ;dsimp only;rw[h1,show rP g []=2 from rfl];by_cases h:o.aDy=7
 .rw[iP h,iP h];rfl
 .rw[iN h,iN h];rfl
theorem Fv{r:Rpl}(h:r.err=0)(a:r.aD1=false)(b:r.hidden=true):rK r=str "hidden":=by
 rw[aAm];unfold rK NS;rw[h,a,b,iN (fun h=>absurd h.1 qe),iN (fun h=>h.1 rfl),iN (fun h=>h rfl),iN qe,iP rfl]
theorem BU(s:Sto)(o:Op):iH s o (4,0)=false:=by
 unfold iH;rw[dF (show ¬((4,0):Mk)=(0,4) by decide),dF (show ¬((4,0):Mk)=(0,0) by decide)];simp
theorem Ml{s:Sto}{o:Op}(h:o.aDy=2):cY s o=s:=by
 unfold cY;rw[h];split<;>rfl
theorem ZM{s:Sto}{o:Op}(h:o.aDy≠7):(cY s o).aDA=s.aDA/\(cY s o).aDL=s.aDL:=by
 unfold cY;by_cases h0:dN s o=0
 .rw[iN (fun h=>h h0)];dsimp only;by_cases h1:o.aDy=1
  .rw[iP h1];exact⟨rfl,rfl⟩
  rw[iN h1];by_cases h3:o.aDy=3
  .rw[iP h3];exact⟨rfl,rfl⟩
  rw[iN h3];by_cases h4:o.aDy=4
  .rw[iP h4];exact⟨rfl,rfl⟩
  rw[iN h4];by_cases h5:o.aDy=5
  .rw[iP h5];exact⟨rfl,rfl⟩
  rw[iN h5];by_cases h6:o.aDy=6
  .rw[iP h6];split<;>exact⟨rfl,rfl⟩
  rw[iN h6,iN h];by_cases h8:o.aDy=8
  .rw[iP h8];exact⟨rfl,rfl⟩
  rw[iN h8];exact⟨rfl,rfl⟩
 .rw[iP h0];exact⟨rfl,rfl⟩
theorem MA(o:Op)(d:Bool)(s:Sto)(a:bY):[(⟨1,2,a⟩:Ob)].foldl (cU o d) s=s:=by
 show cU o d s ⟨1,2,a⟩=s;unfold cU;rw[iN (fun h=>absurd h.1 (show ¬(2:Int)=1 by decide)),iN (show ¬(2:Int)=3 by decide),iN (show ¬(2:Int)=4 by decide)]
theorem Fw{s:Sto}{o:Op}(b:fK o=true)(a:o.aDy=2):dN s o=match dU s o.aDF with |none=>10|some _=>0:=by
 unfold dN;rw[b,a,iN qe,iN qe,iP (.inl rfl)];unfold iA
 cases dU s o.aDF with
 |none=>rfl
 |some c=>
  dsimp only;rw[iN (fun h=>by rw[a] at h;exact absurd h.1 qe),iN (fun h=>h.1 a),iN (fun h=>by rw[a] at h;rcases h with h|h<;>exact absurd h.1 qe)]
theorem WU{s:Sto}(o:Op)(hp:s.aDA=nV):(cK s o).1.aDA=nV:=by
 have hw:=nN s o
 rcases c:cK s o with ⟨t,r,d,e⟩
 rw[c] at hw
 cases hw with
 |none _ _ he p _=>exact hp
 |some m l glass hidden v i n a b k j q=>
  rw[hp,DZ] at a;by_cases h7:o.aDy=7
  .rw[iP h7] at a;injection a with h1 _;injection h1 with h2 h3;subst h2 h3;have f:glass=false:=by
    cases g:glass
    .rfl
    .have:=Cv i (m:=(0,4)) (by rw[<-b,g]);omega
   subst f;exact hp
  .rw[iN h7] at a;injection a with h1 _;injection h1 with h2 h3;subst h2 h3;rw[BU] at b;subst b;dsimp only;rw[MA];show (cY s o).aDA=_;rw[(ZM h7).1,hp]
theorem ID{s:Sto}(o:Op)(hp:s.aDA=nV)(f:pL s=false)(b:fK o=true)(a:o.aDy=2)(d:o.aDS=str "f"):
 rK (cK s o).2.1=match dU s o.aDF with |none=>str "error 10"|some _=>str "hidden":=by
 rw[IU];have e:rY s o=(dN s o,0):=by
  unfold rY;rw[iN (fun h=>by rw[a] at h;exact absurd h.2 qe)]
 rw[e,Fw b a]
 cases g:dU s o.aDF with
 |none=>
  dsimp only;rw[iP qe];show rK {pM with err:=10,at_:=0}=str "error 10"
  kernel_rfl
 |some c=>
  dsimp only;rw[iN (fun h=>h rfl)];unfold Ic;rw[hp,DZ,iN qo];dsimp only;rw[BU,MA];simp only[ne_eq,not_true_eq_false,decide_true,Bool.or_false,if_true,Bool.false_eq_true,if_false,Ml a,f];exact Fv rfl rfl (by rw[a,d];simp)
theorem WV(s:Sto)(o:Op):(cY s o).aDL<=s.aDL+1:=by
 unfold cY;dsimp only;have h0:s.aDL<=s.aDL+1:=qo;split
 .exact h0
 split
 .exact h0
 split
 .exact h0
 split
 .exact h0
 split
 .exact h0
 split
 .split<;>exact h0
 split
 .split
  .exact Int.le_refl _
  .exact h0
 split<;>exact h0
theorem SB(s:Sto)(o:Op):(cK s o).1.aDL<=s.aDL+1:=by
 have h:=nN s o
 rcases b:cK s o with ⟨t,r,d,e⟩
 rw[b] at h
 cases h with
 |none _ _ he k _=>show s.aDL<=s.aDL+1;omega
 |some m l glass hidden v n j g c i f p=>
  dsimp only;rw[(mY _ _ _ _).2];by_cases a:(decide (m=(4,0))||glass)=true
  .rw[iP a];have h1:=WV (if glass=true then gC s o o.aDX else s) o;rw[(gS glass s o o.aDX).2] at h1;exact h1
  .rw[iN a,(gS glass s o o.aDX).2];omega
def lA(k:Nat)(s:Sto):Prop:=sD s/\0<=s.aDL/\s.aDL<=(k:Int)
theorem lA.ok{k:Nat}{s:Sto}(h:lA k s):sD s:=h.1
theorem WY:lA 0 kW:=⟨Zs,qe,qe⟩
theorem lA.guard{k:Nat}{s:Sto}(h:lA k s)(o:Op):lA (k+1) (cK s o).1:=by
 have h1:=(YT s o).2;have h2:=SB s o;exact⟨(PU s o h.1).1,qA h.2.1,qA h.2.2⟩
theorem lA.more{k m:Nat}{s:Sto}(h:lA k s)(hm:k<=m):lA m s:=⟨h.1,h.2.1,qA h.2.2⟩
theorem lA.line{k:Nat}{s:Sto}(h:lA k s)(q:lU):lA (k+1) (eN s q).1:=by
 unfold eN;split
 .exact h.more qo
 .exact h.guard _
def WZ:=(eN kW (cX "ann new c"))
def XA:=(eN WZ.1 (cX "ann write c f 7"))
def EA:List UInt8:=cX "ann policy policy p first "++[123]++cX " deny d when (action.name = #write); permit r; "++[125]
def XB:=(eN XA.1 EA)
def XC:=(eN XB.1 (cX "ann write c f 8"))
def Mm:=(eN XC.1 (cX "bob read c f"))
theorem qO:WZ.2=str "ok"/\XA.2=str "ok"/\XB.2=str "ok"/\XC.2=str "denied Deny"/\Mm.2=str "ok 7":=by
 refine⟨?_,?_,?_,?_,?_⟩<;>kernel_rfl
def MB:=(eN kW (cX "boss new c"))
def MC:=(eN MB.1 (cX "boss write c f 1"))
def Uq(text:lU):=eN MC.1 (cX "boss policy "++text)
theorem MD:MB.2=str "ok"/\MC.2=str "ok":=by refine⟨?_,?_⟩<;>kernel_rfl
def Bl:List UInt8:=cX "policy p denyover "++[123]++cX " deny q when (action.name = #policy); permit r on permit redact f; "++[125]
section
variable {P:Program} {ops:Array Oper} {md:Region.Mode} {C:World->Prop} {Q:Exit->Act->World->Prop}
def qP(listed:Array Bool)(l:List Nat):Array Bool:=l.foldl (fun L i=>L.setIfInBounds i true) listed
theorem QS{n:Nat}{Q:Act->World->Prop}:∀(f:Nat) (listed:Array Bool) (a:Act) (w:World),oX P md ops C n Q f listed a w->oX P md ops C n Q (f+1) listed a w
 |0,listed,a,w,h=>⟨fun _=>h.2,fun i b=>by rw[h.1] at b;cases b⟩
 |f+1,listed,a,w,h=>⟨h.1,fun i b=>TM (fun d w' c=>⟨c.1,QS f _ d w' c.2⟩) (h.2 i b)⟩
theorem Bm{n:Nat}{Q:Act->World->Prop}{f g:Nat}(h:f<=g){listed:Array Bool}{a:Act}{w:World}(b:oX P md ops C n Q f listed a w):oX P md ops C n Q g listed a w:=by
 induction h with
 |refl=>exact b
 |step _ c=>exact QS _ _ _ _ c
def FL(md:Region.Mode)(ops:Array Oper)(n:Nat):List (Nat×Bool)->Array Bool->Bool
 | [],_=>true
 |(k,fl)::r,listed=>(if fl=true then Region.ready md ops listed==[k] else (Region.ready md ops listed).contains k&&Region.free md ops listed k)&&decide (k<n)&&FL md ops n r (listed.setIfInBounds k true)
theorem sJ{n F:Nat}{Q R:Act->World->Prop}(m:Region.noSelect ops=true)(l:Region.sinkB md ops n=true)(f:Region.chainB md ops n=true)(g:n<ops.size):∀(H:List (Nat×Bool)) (listed:Array Bool) (a:Act) (w:World),HeadInv md ops n listed->C w->FL md ops n H listed=true->cJ P ops C n R H a w->(∀d w',R d w'->C w'->HeadInv md ops n (qP listed (H.map (·.1)))->oX P md ops C n Q F (qP listed (H.map (·.1))) d w')->oX P md ops C n Q (H.length+F) listed a w
 | [],listed,a,w,inv,hw,hB,h,hK=>by
   rw[List.length_nil,Nat.zero_add];exact hK a w h hw inv
 |(k,true)::r,listed,a,w,inv,hw,hB,h,hK=>by
  simp only[FL,if_true,Bool.and_eq_true,bQ,decide_eq_true_eq] at hB;obtain⟨⟨j,c⟩,e⟩:=hB;rw[List.length_cons,show r.length+1+F=(r.length+F)+1 by omega];refine IT j ?_;have t:=inv.set (i:=k) (by rw[j];exact List.mem_singleton.2 rfl) c;unfold cJ at h;unfold uZ
  cases b:ops[k]? with
  |none=>simp only[b] at h
  |some o=>
   simp only[b] at h ⊢;unfold mv at h;split
   .rename_i q;rw[iP q] at h;exact tA (fun d w' p=>⟨p.1,sJ m l f g r _ d w' t (p.1 c) e p.2 hK⟩) h
   .rename_i q;rw[iN q] at h;exact⟨h.1,sJ m l f g r _ _ w t (h.1 c) e h.2 hK⟩
 |(k,false)::r,listed,a,w,inv,hw,hB,h,hK=>by
  simp only[FL,Bool.false_eq_true,if_false,Bool.and_eq_true,decide_eq_true_eq] at hB;obtain⟨⟨⟨j,x⟩,c⟩,e⟩:=hB;have s:k∈Region.ready md ops listed:=by simpa using j
  rw[List.length_cons,show r.length+1+F=(r.length+F)+1 by omega];unfold cJ at h
  cases b:ops[k]? with
  |none=>simp only[b] at h
  |some o=>
   simp only[b] at h;obtain⟨v,z,h1,h2⟩:=yieldsAt_of_stOp b ((EV b).2 h);exact KD b (Region.noSelect_spec m) l f g c _ listed a w inv (Region.free_spec b x) s hw
    (fun w1 y=>yieldsAt_of_stOp b ((EV b).2 (h1 w1 y)))
    (sJ m l f g r _ _ w (inv.set s c) hw e h2 hK)
def JM(P:Program)(md:Region.Mode)(ops:Array Oper)(C:World->Prop)(n:Nat)(b:Nat->List Nat)(I:Act->World->Prop):Nat->Array Bool->Act->World->Prop
 |0,_,a,w=>I a w
 |g+1,listed,a,w=>∀i∈Region.ready md ops listed,mv P ops ((ops[i]?).getD default) a w (fun c w'=>C w'/\cJ P ops C n (fun d e=>JM P md ops C n b I g (qP (listed.setIfInBounds i true) (b i)) d e) ((b i).map (·,false)) c w')
theorem gM{n g:Nat}{b:Nat->List Nat}{I:Act->World->Prop}{listed:Array Bool}{a:Act}{w:World}(L:List Nat)(f:Region.ready md ops listed=L)(h:∀i∈L,∃o,ops[i]? =some o/\∀K:Act->World->Prop,(∀c w',C w'->cJ P ops C n (fun e k=>JM P md ops C n b I g (qP (listed.setIfInBounds i true) (b i)) e k) ((b i).map (·,false)) c w'->K c w')->mv P ops o a w K):JM P md ops C n b I (g+1) listed a w:=by
 intro i d;rw[f] at d;obtain⟨o,j,h1⟩:=h i d;rw[j];exact h1 _ (fun c w' h2 h3=>⟨h2,h3⟩)
theorem Rx{p:nP}{i:Nat}{L:List Nat}(h:p i)(a:∀j∈L,p j):∀j∈i::L,p j:=fun j hj=>by
 rcases List.mem_cons.1 hj with rfl|h1
 .exact h
 .exact a j h1
def ME(md:Region.Mode)(ops:Array Oper)(n:Nat)(a:Nat->List Nat)(c:Array Bool):Nat->Nat->Array Bool->Bool
 |0,_,listed=>decide (listed=c)
 |g+1,b,listed=> !(Region.ready md ops listed).isEmpty&&(Region.ready md ops listed).all (fun i=>decide (i<n)&&decide (1+(a i).length<=b)&&(ops[i]?).isSome&&FL md ops n ((a i).map (·,false)) (listed.setIfInBounds i true)&&ME md ops n a c g (b - (1+(a i).length)) (qP (listed.setIfInBounds i true) (a i)))
theorem Bn{n F:Nat}{Q:Act->World->Prop}{c:Nat->List Nat}{l:Array Bool}{I:Act->World->Prop}(B:Region.noSelect ops=true)(A:Region.sinkB md ops n=true)(v:Region.chainB md ops n=true)(y:n<ops.size)(s:∀d w',I d w'->C w'->HeadInv md ops n l->oX P md ops C n Q F l d w'):∀(g b:Nat) (listed:Array Bool) (a:Act) (w:World),HeadInv md ops n listed->C w->ME md ops n c l g b listed=true->JM P md ops C n c I g listed a w->oX P md ops C n Q (b+F) listed a w
 |0,b,listed,a,w,inv,hw,hB,h=>by
  have e:listed=l:=by simpa [ME] using hB
  subst e;exact Bm qo (s a w h hw inv)
 |g+1,b,listed,a,w,inv,hw,hB,h=>by
  simp only[ME,Bool.and_eq_true,Bool.not_eq_true',List.all_eq_true,decide_eq_true_eq] at hB;obtain⟨j,t⟩:=hB;have S:1<=b:=by
   cases z:Region.ready md ops listed with
   |nil=>rw[z] at j;cases j
   |cons i r=>have:=(t i (by rw[z];exact List.mem_cons_self)).1.1.1.2;omega
  obtain⟨f,K⟩:∃f,b+F=f+1:=⟨b+F - 1,qo⟩;rw[K];refine⟨fun h0=>(by rw[h0] at j;cases j),fun i p=> ?_⟩;obtain⟨⟨⟨⟨L,hlen⟩,N⟩,H⟩,G⟩:=t i p;have h1:=h i p;have O:=inv.set (i:=i) p L;obtain⟨o,M⟩:=Option.isSome_iff_exists.1 N;have x:∀(d:Act) (w':World),(C w'/\cJ P ops C n (fun D R=>JM P md ops C n c I g (qP (listed.setIfInBounds i true) (c i)) D R) ((c i).map (·,false)) d w')->((i<n->C w')/\oX P md ops C n Q f (listed.setIfInBounds i true) d w'):=fun d w' m=>by
   refine⟨fun _=>m.1,?_⟩;have e:((c i).map (fun k=>(k,false))).map (·.1)=c i:=by rw[List.map_map];exact List.map_id _
   have h2:=sJ (F:=b - (1+(c i).length)+F) (Q:=Q) B A v y _ _ d w' O m.1 H m.2 (fun a2 w2 J E inv2=>by
    rw[e] at inv2 ⊢;exact Bn B A v y s g _ _ a2 w2 inv2 E G J)
   refine Bm ?_ h2;rw[List.length_map];omega
  unfold uZ;rw[M] at h1 ⊢;unfold mv at h1;dsimp only[Option.getD_some] at h1 ⊢;split
  .rename_i q;rw[iP q] at h1;exact tA x h1
  .rename_i q;rw[iN q] at h1;exact x _ _ h1
def Ur(md:Region.Mode)(ops:Array Oper)(n:Nat)(H1:List (Nat×Bool))(g b:Nat)(a:Nat->List Nat)(H T:List (Nat×Bool)):Bool:=
 Region.noSelect ops&&decide (n<ops.size)&&Region.sinkB md ops n&&Region.chainB md ops n&&decide (H1.length+(b+(H.length+T.length))=ops.size)&&FL md ops n H1 (Array.replicate ops.size false)&&ME md ops n a (qP (Array.replicate ops.size false) ((H1.map (·.1))++(List.range ops.size).filter (fun i=> !(((H1.map (·.1))++(H.map (·.1))++(T.map (·.1))).contains i)))) g b (qP (Array.replicate ops.size false) (H1.map (·.1)))&&EU md ops n T H (qP (Array.replicate ops.size false) ((H1.map (·.1))++(List.range ops.size).filter (fun i=> !(((H1.map (·.1))++(H.map (·.1))++(T.map (·.1))).contains i))))
theorem MF{id:Nat}{a:Act}{w:World}{l:List Oper}(n:Nat)(H1:List (Nat×Bool))(g b:Nat)(q:Nat->List Nat)(H T:List (Nat×Bool))(C:World->Prop)(I:Act->World->Prop)(hm:P.follows .mixedOrders=true)(m:Ur .any l.toArray n H1 g b q H T=true)(hC:C w.drew)
 (h:cJ P l.toArray C n (fun c w'=>C w'->JM P .any l.toArray C n q I g (qP (Array.replicate l.toArray.size false) (H1.map (·.1))) c w') H1 a w.drew)
 (s:∀c w',I c w'->C w'->cJ P l.toArray C n (fun a w=>Q .normal a w) (H++T) c w'):(Code.region id l.toArray true).wp P Q a w:=by
 simp only[Ur,Bool.and_eq_true,decide_eq_true_eq] at m;obtain⟨⟨⟨⟨⟨⟨⟨k,f⟩,i⟩,e⟩,d⟩,v⟩,r⟩,y⟩:=m;have B:HeadInv .any l.toArray n (Array.replicate l.toArray.size false):=
  ⟨qs,fun j D _ d=>(by rw[getD_replicate_false] at d;cases d),fun t _ z=>getD_in (by simpa using z) (getD_replicate_false _ _)⟩
 have h1:=sJ (md:= .any) (F:=b+(H.length+T.length)) (Q:=fun a w=>Q .normal a w) k i e f H1 _ a w.drew B hC v h (fun c w' x o A=>Bn k i e f (fun a2 w2 h2 p inv2=>uE (md:= .any) k i e f H _ a2 w2 inv2 p y (s a2 w2 h2 p)) g b _ c w' A o r (x o));rw[d] at h1;exact wp_region_any hm (xX _ _ _ _ h1)
end
end Go.Proofs.YtdfinmcogbkffaaGreatDoor
