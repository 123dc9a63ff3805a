/- Lemmas. -/
import Derived.Test.YtjlkljmickcacaaGreatDoorMay
import Derived.Lib.ItoaNum
namespace Go.Proofs.YtjlkljmickcacaaGreatDoor
open Go.RowKit
set_option linter.unusedVariables false
set_option linter.unusedSimpArgs false
set_option maxHeartbeats 16000000
set_option maxRecDepth 20000
def cZ(s:String):List UInt8:=s.toUTF8.data.toList
def mS(n:Int):List UInt8:=Lib.itoa n
def FL(m:Mk):List UInt8:=
 if m=(0,0) then cZ "NotApplicable" else if m=(4,0) then cZ "Permit" else if m=(0,4) then cZ "Deny"
 else if m=(2,0) then cZ "Indeterminate"++[123,80,125] else if m=(0,2) then cZ "Indeterminate"++[123,68,125] else if m=(2,2) then cZ "Indeterminate"++[123,68,80,125] else []
def JP(n:Nat):UInt8:=if n<10 then UInt8.ofNat (48+n) else UInt8.ofNat (87+n)
def uO(c:UInt8):List UInt8:=if fG c then [c] else [92,JP (c.toNat / 16),JP (c.toNat % 16)]
def FM(l:lU):List UInt8:=[34]++l.flatMap uO++[34]
def vQ(v:V3):List UInt8:=
 if aT v=false then []
 else if v.1=1 then (if v.2.1=1 then cZ "true" else cZ "false")
 else if v.1=4 then [64]++mS v.2.1
 else if v.1=5 then [35]++v.2.2.data.toList
 else if v.1=3 then FM v.2.2.data.toList
 else mS v.2.1
def OC(r:Rpl):List UInt8:=
 if r.err=12/\r.mark≠(4,0) then cZ "denied "++FL r.mark
 else if r.err≠0/\0<r.at_ then cZ "error "++mS r.err++cZ " at "++mS r.at_
 else if r.err≠0 then cZ "error "++mS r.err
 else if r.aDQ=true then cZ "glass"
 else if r.hidden=true then cZ "hidden"
 else if r.val≠bD then cZ "ok "++vQ r.val
 else cZ "ok"
def tL(r:Rpl):ByteArray:=bs (OC r)
def Uh:ByteArray:=str "what"
def eW(s:Sto)(q:lU):Sto×ByteArray:=
 match iV q with
 |none=>(s,Uh)
 |some o=>((cR s o).1,tL (cR s o).2.1)
theorem aAd(s:String):str s=bs (cZ s):=by unfold str cZ bs;rw[Array.toArray_toList]
theorem ZN{g:List Gv}{p:Po}(h:p.aDD=[]):∀n,kC g n p=p
 |0=>rfl
 |n+1=>by
  obtain⟨a,b,c,d,e,f,k⟩:=p;change f=[] at h;subst h;rfl
theorem MD{g:List Gv}{p:Po}(h:p.aDD=[])(a:fB p=0):gF g p=(cS g 4 p,0):=by
 unfold gF;rw[iN (fun e=>e a),ZN h];unfold qU;rw[iN (fun e=>e a)]
theorem JQ(s:Sto)(o:Op):mW (gV s o) 2 (str "name")=[sD (cG o.aDo)]:=by
 unfold gV mW;simp only[List.cons_append];rw[List.find?_cons_of_neg (by unfold jY mO;simp),List.find?_cons_of_neg (by unfold jY mO;simp),List.find?_cons_of_pos (by unfold jY mO;simp)];rfl
theorem QV{g:List Gv}{a:At}{x y:bY}(hm:a.aDW=false)(b:mW g a.cat a.name=[sD y]):fN g ⟨a,1,(5,0,x)⟩=if y=x then 2 else 0:=by
 have c:oL g a=([sD y],0):=by unfold oL;rw[b,iN (fun h=>by cases h.1)]
 unfold fN;dsimp only;rw[c,iN (fun h=>h rfl)];have ha:fT ⟨a,1,(5,0,x)⟩ (sD y)=(decide (((5,0,y):V3)=(5,0,x)),0):=by
  unfold fT sD;rw[iP rfl,iN (fun h=>h rfl)]
 show (if (fT ⟨a,1,(5,0,x)⟩ (sD y)).1=true then 2 else (if (fT ⟨a,1,(5,0,x)⟩ (sD y)).2≠0 then 1 else 0))=_;rw[ha,iN (show ¬((0:Int)≠0) by decide)];by_cases h:y=x
 .subst h;simp
 .rw[iN h,dF (fun e=>h (by injection e with _ e;injection e)),iN qe]
theorem BV(k:Int):cG k=str "policy"↔k=7:=by
 by_cases h:k<1\/7<k
 .unfold cG;rw[iP h];exact⟨fun e=>absurd e (by decide +kernel),fun e=>by omega⟩
 .exact Yr
theorem Xb(g:List Gv)(m:Ma):qE g [[[m]]]=min 2 (max 0 (min 2 (fN g m))):=rfl
theorem ME(s:Sto)(o:Op):qE (gV s o) [[[⟨⟨2,str "name",false⟩,1,(5,0,str "policy")⟩]]]=if o.aDo=7 then 2 else 0:=by
 rw[Xb,QV rfl (JQ s o)];by_cases h:o.aDo=7
 .rw[iP h,iP ((BV _).2 h)];rfl
 .rw[iN h,iN (fun e=>h ((BV _).1 e))];rfl
theorem ZO{s:Sto}{o:Op}(h:o.aDo≠7):(dA s o).aDp=s.aDp/\(dA s o).aDA=s.aDA:=by
 unfold dA;by_cases h0:dW s o=0
 .rw[iN (fun h=>h h0)];dsimp only;by_cases h1:o.aDo=1
  .rw[iP h1];exact⟨rfl,rfl⟩
  rw[iN h1];by_cases h3:o.aDo=3
  .rw[iP h3];exact⟨rfl,rfl⟩
  rw[iN h3];by_cases h4:o.aDo=4
  .rw[iP h4];exact⟨rfl,rfl⟩
  rw[iN h4];by_cases h5:o.aDo=5
  .rw[iP h5];exact⟨rfl,rfl⟩
  rw[iN h5];by_cases h6:o.aDo=6
  .rw[iP h6];split<;>exact⟨rfl,rfl⟩
  rw[iN h6,iN h];by_cases h8:o.aDo=8
  .rw[iP h8];exact⟨rfl,rfl⟩
  rw[iN h8];exact⟨rfl,rfl⟩
 .rw[iP h0];exact⟨rfl,rfl⟩
theorem QBI{p:Prop}(h:p:=by
 show (cS g 4 kS,0)=_;unfold cS kS;dsimp only[Po.aDy,Po.aDq,Po.aDD,Po.aDE,Po.alg,List.map];rw[show qE g []=2 from rfl,iN qe];unfold iC;dsimp only;rw[h4,h5,show qE g []=2 from rfl];rfl):p:=h
def xY:Ma:=⟨⟨2,str "name",false⟩,1,(5,0,str "move")⟩
def Bn:Ma:=⟨⟨2,str "to",false⟩,1,(5,0,str "closed")⟩
def FN:Ma:=⟨⟨3,str "took",false⟩,1,(1,1,ByteArray.empty)⟩
def kS:Po:= .mk (str "p") false 1 [] [⟨str "m",true,[[[xY,Bn,FN]]],[],[]⟩,⟨str "q",true,[[[⟨⟨2,str "name",false⟩,1,(5,0,str "policy")⟩]]],[],[]⟩,⟨str "r",false,[],[],[]⟩] [] []
theorem MF:fB kS=0:=by kernel_rfl
theorem iX{c a:Int}{n d:String}{b:List V3}(h:(decide (a=c)&&decide (str d=str n))=false):¬jY c (str n) (mO a d b)=true:=by
 intro e;have:jY c (str n) (mO a d b)=(decide (a=c)&&decide (str d=str n)):=rfl;rw[this,h] at e
 cases e
theorem Bo{c:Int}{n:String}{b:List V3}:jY c (str n) (mO c n b)=true:=by unfold jY mO;simp
theorem OD{p:Gv->Bool}{q:Prop}[Decidable q]{x:Gv}(h:¬p x=true):(if q then [x] else []).find? p=none:=by
 split
 .rw[List.find?_cons_of_neg h];rfl
 .rfl
theorem aAe(s:Sto)(o:Op)(h:o.to_.size≠0):mW (gV s o) 2 (str "to")=[sD o.to_]:=by
 unfold gV mW;simp only[List.cons_append,List.nil_append,List.append_assoc];rw[List.find?_cons_of_neg (iX (by decide +kernel)),List.find?_cons_of_neg (iX (by decide +kernel)),List.find?_cons_of_neg (iX (by decide +kernel)),List.find?_append,OD (iX (by decide +kernel)),iP h,Option.none_or,List.cons_append,List.find?_cons_of_pos Bo];rfl
theorem Rp(s:Sto)(o:Op)(c:cB)(a:dC s o.aDu=some c)(h6:o.aDo≠6):mW (gV s o) 3 (str "took")=[cH (c.log.any (fun h=>decide (h.aDT=o.aDC)))]:=by
 unfold gV mW;rw[a];dsimp only;rw[iP h6];unfold mP;simp only[List.cons_append,List.nil_append,List.append_assoc];rw[List.find?_cons_of_neg (iX (by decide +kernel)),List.find?_cons_of_neg (iX (by decide +kernel)),List.find?_cons_of_neg (iX (by decide +kernel)),List.find?_append,OD (iX (by decide +kernel)),Option.none_or,List.find?_append,OD (iX (by decide +kernel)),Option.none_or,
  List.find?_cons_of_neg (iX (by decide +kernel)),List.find?_cons_of_neg (iX (by decide +kernel)),List.find?_cons_of_neg (iX (by decide +kernel)),List.find?_cons_of_neg (iX (by decide +kernel)),List.find?_cons_of_neg (iX (by decide +kernel)),List.find?_cons_of_pos Bo]
 rfl
theorem DZ{g:List Gv}{m:Ma}(c:m.op=1)(a:mW g m.aDN.cat m.aDN.name=[m.val]):fN g m=2:=by
 have b:oL g m.aDN=([m.val],0):=by unfold oL;rw[a,iN (fun h=>by cases h.1)]
 have ha:fT m m.val=(true,0):=by unfold fT;rw[iP c,iN (fun h=>h rfl),dX rfl]
 unfold fN;rw[b,iN (fun h=>h rfl)];show (if (fT m m.val).1=true then 2 else _)=2;rw[ha,iP rfl]
theorem Md{s:Sto}{o:Op}{b:cB}(e:o.aDo=4)(a:o.to_=gU)(c:dC s o.aDu=some b)(d:b.log.any (fun h=>decide (h.aDT=o.aDC))=true):gF (gV s o) kS=(((0,4),[]),0):=by
 rw[MD rfl MF];have h1:fN (gV s o) xY=2:=DZ rfl (by show mW (gV s o) 2 (str "name")=_;rw[JQ,e];kernel_rfl);have h2:fN (gV s o) Bn=2:=DZ rfl (by show mW (gV s o) 2 (str "to")=_;rw[aAe s o (by rw[a];decide +kernel),a];rfl);have h3:fN (gV s o) FN=2:=DZ rfl (by show mW (gV s o) 3 (str "took")=_;rw[Rp s o b c qo,d];rfl);have h4:=ME s o;rw[iN qo] at h4;generalize gV s o=g at *;have h5:qE g [[[xY,Bn,FN]]]=2:=by
  show min 2 (max 0 (min (min (min 2 (fN g xY)) (fN g Bn)) (fN g FN)))=2;rw[h1,h2,h3];rfl
 exact QBI
theorem ZP{s:Sto}{o:Op}(a:o.aDo=7):∃l,gF (gV s o) kS=(((0,4),l),0):=by
 rw[MD rfl MF];have h4:=ME s o;rw[iP a] at h4;have h1:fN (gV s o) xY=0:=by
  unfold xY;rw[QV rfl (JQ s o),a]
  kernel_rfl
 generalize gV s o=g at *;have h5:qE g [[[xY,Bn,FN]]]=0:=by
  show min 2 (max 0 (min (min (min 2 (fN g xY)) (fN g Bn)) (fN g FN)))=0;rw[h1];simp
 refine⟨[],?_⟩;exact QBI
theorem Me{r:Rpl}(h:r.err=0)(a:r.aDQ=true):tL r=str "glass":=by
 rw[aAd];unfold tL OC;rw[h,a,iN (fun h=>absurd h.1 qe),iN (fun h=>h.1 rfl),iN (fun h=>h rfl),iP rfl]
theorem Fq{s:Sto}{o:Op}{c:cB}(h:c∈(dA s o).aDn):(∃b∈s.aDn,b.id=c.id/\b.aDH=c.aDH)\/(o.aDo=1/\c.aDH=xG)\/(o.aDo=4/\c.aDH=o.to_/\∃b,dC s o.aDu=some b/\b.id=c.id):=by
 unfold dA at h;by_cases h0:dW s o=0
 .rw[iN (fun h=>h h0)] at h;dsimp only at h;by_cases h1:o.aDo=1
  .rw[iP h1] at h;rw[List.append_assoc,List.mem_append,List.mem_append] at h
   rcases h with h|h|h
   .exact .inl ⟨c,List.mem_of_mem_take h,rfl,rfl⟩
   .rw[List.mem_singleton] at h;exact .inr (.inl ⟨h1,by rw[h];rfl⟩)
   .exact .inl ⟨c,List.mem_of_mem_drop h,rfl,rfl⟩
  rw[iN h1] at h;by_cases h3:o.aDo=3
  .rw[iP h3] at h
   rcases vK h with h|⟨b,a,e⟩
   .exact .inl ⟨c,h,rfl,rfl⟩
   .refine .inl ⟨b,List.mem_of_getElem? a,?_,?_⟩
    .rw[e,rQ];rfl
    .rw[e,rQ];rfl
  rw[iN h3] at h;by_cases h4:o.aDo=4
  .rw[iP h4] at h
   rcases vK h with h|⟨b,a,e⟩
   .exact .inl ⟨c,h,rfl,rfl⟩
   .obtain⟨b',d,_⟩:=vI ((vJ h0).2.2.1 (.inr (.inr h4)));have:=JG d a;refine .inr (.inr ⟨h4,by rw[e];rfl,b',d,?_⟩);rw[e,<-this];rfl
  rw[iN h4] at h;by_cases h5:o.aDo=5
  .rw[iP h5] at h;exact .inl ⟨c,h,rfl,rfl⟩
  rw[iN h5] at h;by_cases h6:o.aDo=6
  .rw[iP h6] at h;split at h<;>exact .inl ⟨c,h,rfl,rfl⟩
  rw[iN h6] at h;by_cases h7:o.aDo=7
  .rw[iP h7] at h;split at h<;>exact .inl ⟨c,h,rfl,rfl⟩
  rw[iN h7] at h;split at h<;>exact .inl ⟨c,h,rfl,rfl⟩
 .rw[iP h0] at h;exact .inl ⟨c,h,rfl,rfl⟩
theorem WZ{s:Sto}(c:jH cB.id s.aDn){b:cB}(h:b∈s.aDn):dC s b.id=some b:=by
 obtain⟨k,a,rfl⟩:=List.getElem_of_mem h;exact(Ec c a).2
theorem Fs(g:Bool)(s:Sto)(o:Op)(r:bY)(id:bY):dC (if g=true then fU s o r else s) id=dC s id:=by split<;>rfl
theorem Ft{s:Sto}(o:Op)(hp:s.aDp=kS):(cR s o).1.aDp=kS:=by
 have hw:=mD s o
 rcases f:cR s o with ⟨t,r,d,e⟩
 rw[f] at hw;have c:∀(l:List Ob) (d:Bool) (t:Sto),(l.foldl (cU o d) t).aDp=t.aDp:=by
  intro l d
  induction l with
  |nil=>exact fun _=>rfl
  |cons x l p=>
   intro t;rw[List.foldl_cons,p];unfold cU;split
   .unfold lK;dsimp only;split<;>rfl
   .split
    .rfl
    .split<;>rfl
 cases hw with
 |none _ _ he z _=>exact hp
 |some m l glass hidden v n y a j w q A=>
  dsimp only;rw[c];have b:(if glass=true then fU s o o.aDM else s).aDp=kS:=by split<;>exact hp
  by_cases h7:o.aDo=7
  .rw[hp] at a;obtain⟨l',k⟩:=ZP (s:=s) (o:=o) h7;rw[k] at a;injection a with h1 _;injection h1 with h2 h3;subst h2;have g:glass=false:=by
    cases i:glass
    .rfl
    .have:=Ct n (m:=(0,4)) (by rw[<-j,i]);omega
   subst g;exact hp
  .split
   .rw[(ZO h7).1];exact b
   .exact b
theorem Mf{s:Sto}(G:vH s)(o:Op)(hp:s.aDp=kS){b c:cB}(j:c∈(cR s o).1.aDn)(y:dC s c.id=some b)(h1:b.aDH≠gU)(h2:c.aDH=gU)(ha:tL (cR s o).2.1≠str "glass"):o.aDo=4/\∀h∈b.log,h.aDT≠o.aDC:=by
 have H:=G.1.aD2;have q:∀x∈s.aDn,x.id=c.id->x.aDH=c.aDH->False:=fun x f g a=>by
  have:=WZ H f;rw[g,y] at this;injection this with this;exact h1 (by rw[this,a,h2])
 have hw:=mD s o
 rcases C:cR s o with ⟨t,r,d,e⟩
 rw[C] at hw j ha
 cases hw with
 |none _ _ he N _=>exact(q c j rfl rfl).elim
 |some m l glass hidden v O M z I K J P=>
  dsimp only at j ha;obtain⟨c0,i,L,w,_⟩:=KZ (qZ o (decide (m=(4,0))||glass) l _) j;have i0:c0.id=c.id:=by rw[w]
  have k:c0.aDH=c.aDH:=by rw[w]
  by_cases n:(decide (m=(4,0))||glass)=true
  .rw[iP n] at i;have D:(if glass=true then fU s o o.aDM else s).aDn=s.aDn:=nG _ _ _ _
   rcases Fq i with ⟨x,f,g,a⟩|⟨p,a⟩|⟨p,a,x,f,g⟩
   .rw[D] at f;exact(q x f (g.trans i0) (a.trans k)).elim
   .rw[k,h2] at a;exact absurd a (by decide +kernel)
   .rw[Fs] at f;have hid:x.id=o.aDu:=by
     obtain⟨_,_,_,_,h4,_⟩:=FE f;exact h4
    have A:dC s o.aDu=some b:=by rw[<-hid,g,i0];exact y
    refine⟨p,fun h F he=> ?_⟩;have B:=Md (s:=s) (o:=o) p (by rw[<-a,k,h2]) A (by rw[List.any_eq_true];exact⟨h,F,by rw[he];simp⟩);rw[hp,B] at z;injection z with h3 _;injection h3 with h4 h5;subst h4;have E:glass=true:=by simpa using n
    subst E;exact ha (Me rfl rfl)
  .rw[iN n] at i;rw[nG] at i;exact(q c0 i i0 k).elim
theorem XA(s:Sto)(o:Op):(dA s o).aDA<=s.aDA+1:=by
 unfold dA;dsimp only;have h0:s.aDA<=s.aDA+1:=qo;split
 .exact h0
 split
 .exact h0
 split
 .exact h0
 split
 .exact h0
 split
 .exact h0
 split
 .split<;>exact h0
 split
 .split
  .exact Int.le_refl _
  .exact h0
 split<;>exact h0
theorem SG(s:Sto)(o:Op):(cR s o).1.aDA<=s.aDA+1:=by
 have h:=mD s o
 rcases b:cR s o with ⟨t,r,d,e⟩
 rw[b] at h
 cases h with
 |none _ _ he k _=>show s.aDA<=s.aDA+1;omega
 |some m l glass hidden v n j g c i f p=>
  dsimp only;rw[(nF _ _ _ _).2];by_cases a:(decide (m=(4,0))||glass)=true
  .rw[iP a];have h1:=XA (if glass=true then fU s o o.aDM else s) o;rw[(gX glass s o o.aDM).2] at h1;exact h1
  .rw[iN a,(gX glass s o o.aDM).2];omega
def lO(k:Nat)(s:Sto):Prop:=vH s/\0<=s.aDA/\s.aDA<=(k:Int)
theorem lO.ok{k:Nat}{s:Sto}(h:lO k s):vH s:=h.1
theorem XB:lO 0 lD:=⟨Zj,qe,qe⟩
theorem lO.guard{k:Nat}{s:Sto}(h:lO k s)(o:Op):lO (k+1) (cR s o).1:=by
 have h1:=(YV s o).2;have h2:=SG s o;exact⟨(Jr s o h.1).1,qA h.2.1,qA h.2.2⟩
theorem lO.more{k m:Nat}{s:Sto}(h:lO k s)(hm:k<=m):lO m s:=⟨h.1,h.2.1,qA h.2.2⟩
theorem lO.line{k:Nat}{s:Sto}(h:lO k s)(q:lU):lO (k+1) (eW s q).1:=by
 unfold eW;split
 .exact h.more qo
 .exact h.guard _
def XC:=(eW lD (cZ "ann new c"))
def XD:=(eW XC.1 (cZ "ann write c f 7"))
def EA:List UInt8:=cZ "ann policy policy p first "++[123]++cZ " deny d when (action.name = #write); permit r; "++[125]
def XE:=(eW XD.1 EA)
def XF:=(eW XE.1 (cZ "ann write c f 8"))
def Mg:=(eW XF.1 (cZ "bob read c f"))
theorem qR:XC.2=str "ok"/\XD.2=str "ok"/\XE.2=str "ok"/\XF.2=str "denied Deny"/\Mg.2=str "ok 7":=by
 refine⟨?_,?_,?_,?_,?_⟩<;>kernel_rfl
def MG:=(eW lD (cZ "boss new c"))
def MH:=(eW MG.1 (cZ "boss write c f 1"))
def MI(text:lU):=eW MH.1 (cZ "boss policy "++text)
theorem MJ:MG.2=str "ok"/\MH.2=str "ok":=by refine⟨?_,?_⟩<;>kernel_rfl
def MK:List UInt8:=cZ "policy p denyover "++[123]++cZ " deny m when (action.name = #move, action.to = #closed, case.took = true); deny q when (action.name = #policy); permit r; "++[125]
theorem QW:(MI MK).2=str "ok"/\(MI MK).1.aDp=kS:=by refine⟨?_,?_⟩<;>kernel_rfl
section
variable {P:Program} {ops:Array Oper} {md:Region.Mode} {C:World->Prop} {Q:Exit->Act->World->Prop}
def qT(listed:Array Bool)(l:List Nat):Array Bool:=l.foldl (fun L i=>L.setIfInBounds i true) listed
theorem QX{n:Nat}{Q:Act->World->Prop}:∀(f:Nat) (listed:Array Bool) (a:Act) (w:World),pC P md ops C n Q f listed a w->pC P md ops C n Q (f+1) listed a w
 |0,listed,a,w,h=>⟨fun _=>h.2,fun i b=>by rw[h.1] at b;cases b⟩
 |f+1,listed,a,w,h=>⟨h.1,fun i b=>TQ (fun d w' c=>⟨c.1,QX f _ d w' c.2⟩) (h.2 i b)⟩
theorem Bp{n:Nat}{Q:Act->World->Prop}{f g:Nat}(h:f<=g){listed:Array Bool}{a:Act}{w:World}(b:pC P md ops C n Q f listed a w):pC P md ops C n Q g listed a w:=by
 induction h with
 |refl=>exact b
 |step _ c=>exact QX _ _ _ _ c
def FO(md:Region.Mode)(ops:Array Oper)(n:Nat):List (Nat×Bool)->Array Bool->Bool
 | [],_=>true
 |(k,fl)::r,listed=>(if fl=true then Region.ready md ops listed==[k] else (Region.ready md ops listed).contains k&&Region.free md ops listed k)&&decide (k<n)&&FO md ops n r (listed.setIfInBounds k true)
theorem sN{n F:Nat}{Q R:Act->World->Prop}(m:Region.noSelect ops=true)(l:Region.sinkB md ops n=true)(f:Region.chainB md ops n=true)(g:n<ops.size):∀(H:List (Nat×Bool)) (listed:Array Bool) (a:Act) (w:World),HeadInv md ops n listed->C w->FO md ops n H listed=true->cJ P ops C n R H a w->(∀d w',R d w'->C w'->HeadInv md ops n (qT listed (H.map (·.1)))->pC P md ops C n Q F (qT listed (H.map (·.1))) d w')->pC P md ops C n Q (H.length+F) listed a w
 | [],listed,a,w,inv,hw,hB,h,hK=>by
   rw[List.length_nil,Nat.zero_add];exact hK a w h hw inv
 |(k,true)::r,listed,a,w,inv,hw,hB,h,hK=>by
  simp only[FO,if_true,Bool.and_eq_true,bQ,decide_eq_true_eq] at hB;obtain⟨⟨j,c⟩,e⟩:=hB;rw[List.length_cons,show r.length+1+F=(r.length+F)+1 by omega];refine IX j ?_;have t:=inv.set (i:=k) (by rw[j];exact List.mem_singleton.2 rfl) c;unfold cJ at h;unfold uY
  cases b:ops[k]? with
  |none=>simp only[b] at h
  |some o=>
   simp only[b] at h ⊢;unfold mv at h;split
   .rename_i q;rw[iP q] at h;exact tC (fun d w' p=>⟨p.1,sN m l f g r _ d w' t (p.1 c) e p.2 hK⟩) h
   .rename_i q;rw[iN q] at h;exact⟨h.1,sN m l f g r _ _ w t (h.1 c) e h.2 hK⟩
 |(k,false)::r,listed,a,w,inv,hw,hB,h,hK=>by
  simp only[FO,Bool.false_eq_true,if_false,Bool.and_eq_true,decide_eq_true_eq] at hB;obtain⟨⟨⟨j,x⟩,c⟩,e⟩:=hB;have s:k∈Region.ready md ops listed:=by simpa using j
  rw[List.length_cons,show r.length+1+F=(r.length+F)+1 by omega];unfold cJ at h
  cases b:ops[k]? with
  |none=>simp only[b] at h
  |some o=>
   simp only[b] at h;obtain⟨v,z,h1,h2⟩:=yieldsAt_of_stOp b ((EW b).2 h);exact KG b (Region.noSelect_spec m) l f g c _ listed a w inv (Region.free_spec b x) s hw
    (fun w1 y=>yieldsAt_of_stOp b ((EW b).2 (h1 w1 y)))
    (sN m l f g r _ _ w (inv.set s c) hw e h2 hK)
def JR(P:Program)(md:Region.Mode)(ops:Array Oper)(C:World->Prop)(n:Nat)(b:Nat->List Nat)(I:Act->World->Prop):Nat->Array Bool->Act->World->Prop
 |0,_,a,w=>I a w
 |g+1,listed,a,w=>∀i∈Region.ready md ops listed,mv P ops ((ops[i]?).getD default) a w (fun c w'=>C w'/\cJ P ops C n (fun d e=>JR P md ops C n b I g (qT (listed.setIfInBounds i true) (b i)) d e) ((b i).map (·,false)) c w')
theorem gO{n g:Nat}{b:Nat->List Nat}{I:Act->World->Prop}{listed:Array Bool}{a:Act}{w:World}(L:List Nat)(f:Region.ready md ops listed=L)(h:∀i∈L,∃o,ops[i]? =some o/\∀K:Act->World->Prop,(∀c w',C w'->cJ P ops C n (fun e k=>JR P md ops C n b I g (qT (listed.setIfInBounds i true) (b i)) e k) ((b i).map (·,false)) c w'->K c w')->mv P ops o a w K):JR P md ops C n b I (g+1) listed a w:=by
 intro i d;rw[f] at d;obtain⟨o,j,h1⟩:=h i d;rw[j];exact h1 _ (fun c w' h2 h3=>⟨h2,h3⟩)
theorem Rq{p:nP}{i:Nat}{L:List Nat}(h:p i)(a:∀j∈L,p j):∀j∈i::L,p j:=fun j hj=>by
 rcases List.mem_cons.1 hj with rfl|h1
 .exact h
 .exact a j h1
def ML(md:Region.Mode)(ops:Array Oper)(n:Nat)(a:Nat->List Nat)(c:Array Bool):Nat->Nat->Array Bool->Bool
 |0,_,listed=>decide (listed=c)
 |g+1,b,listed=> !(Region.ready md ops listed).isEmpty&&(Region.ready md ops listed).all (fun i=>decide (i<n)&&decide (1+(a i).length<=b)&&(ops[i]?).isSome&&FO md ops n ((a i).map (·,false)) (listed.setIfInBounds i true)&&ML md ops n a c g (b - (1+(a i).length)) (qT (listed.setIfInBounds i true) (a i)))
theorem Bq{n F:Nat}{Q:Act->World->Prop}{c:Nat->List Nat}{l:Array Bool}{I:Act->World->Prop}(B:Region.noSelect ops=true)(A:Region.sinkB md ops n=true)(v:Region.chainB md ops n=true)(y:n<ops.size)(s:∀d w',I d w'->C w'->HeadInv md ops n l->pC P md ops C n Q F l d w'):∀(g b:Nat) (listed:Array Bool) (a:Act) (w:World),HeadInv md ops n listed->C w->ML md ops n c l g b listed=true->JR P md ops C n c I g listed a w->pC P md ops C n Q (b+F) listed a w
 |0,b,listed,a,w,inv,hw,hB,h=>by
  have e:listed=l:=by simpa [ML] using hB
  subst e;exact Bp qo (s a w h hw inv)
 |g+1,b,listed,a,w,inv,hw,hB,h=>by
  simp only[ML,Bool.and_eq_true,Bool.not_eq_true',List.all_eq_true,decide_eq_true_eq] at hB;obtain⟨j,t⟩:=hB;have S:1<=b:=by
   cases z:Region.ready md ops listed with
   |nil=>rw[z] at j;cases j
   |cons i r=>have:=(t i (by rw[z];exact List.mem_cons_self)).1.1.1.2;omega
  obtain⟨f,K⟩:∃f,b+F=f+1:=⟨b+F - 1,qo⟩;rw[K];refine⟨fun h0=>(by rw[h0] at j;cases j),fun i p=> ?_⟩;obtain⟨⟨⟨⟨L,hlen⟩,N⟩,H⟩,G⟩:=t i p;have h1:=h i p;have O:=inv.set (i:=i) p L;obtain⟨o,M⟩:=Option.isSome_iff_exists.1 N;have x:∀(d:Act) (w':World),(C w'/\cJ P ops C n (fun D R=>JR P md ops C n c I g (qT (listed.setIfInBounds i true) (c i)) D R) ((c i).map (·,false)) d w')->((i<n->C w')/\pC P md ops C n Q f (listed.setIfInBounds i true) d w'):=fun d w' m=>by
   refine⟨fun _=>m.1,?_⟩;have e:((c i).map (fun k=>(k,false))).map (·.1)=c i:=by rw[List.map_map];exact List.map_id _
   have h2:=sN (F:=b - (1+(c i).length)+F) (Q:=Q) B A v y _ _ d w' O m.1 H m.2 (fun a2 w2 J E inv2=>by
    rw[e] at inv2 ⊢;exact Bq B A v y s g _ _ a2 w2 inv2 E G J)
   refine Bp ?_ h2;rw[List.length_map];omega
  unfold uY;rw[M] at h1 ⊢;unfold mv at h1;dsimp only[Option.getD_some] at h1 ⊢;split
  .rename_i q;rw[iP q] at h1;exact tC x h1
  .rename_i q;rw[iN q] at h1;exact x _ _ h1
def Ui(md:Region.Mode)(ops:Array Oper)(n:Nat)(H1:List (Nat×Bool))(g b:Nat)(a:Nat->List Nat)(H T:List (Nat×Bool)):Bool:=
 Region.noSelect ops&&decide (n<ops.size)&&Region.sinkB md ops n&&Region.chainB md ops n&&decide (H1.length+(b+(H.length+T.length))=ops.size)&&FO md ops n H1 (Array.replicate ops.size false)&&ML md ops n a (qT (Array.replicate ops.size false) ((H1.map (·.1))++(List.range ops.size).filter (fun i=> !(((H1.map (·.1))++(H.map (·.1))++(T.map (·.1))).contains i)))) g b (qT (Array.replicate ops.size false) (H1.map (·.1)))&&EV md ops n T H (qT (Array.replicate ops.size false) ((H1.map (·.1))++(List.range ops.size).filter (fun i=> !(((H1.map (·.1))++(H.map (·.1))++(T.map (·.1))).contains i))))
theorem MM{id:Nat}{a:Act}{w:World}{l:List Oper}(n:Nat)(H1:List (Nat×Bool))(g b:Nat)(q:Nat->List Nat)(H T:List (Nat×Bool))(C:World->Prop)(I:Act->World->Prop)(hm:P.follows .mixedOrders=true)(m:Ui .any l.toArray n H1 g b q H T=true)(hC:C w.drew)
 (h:cJ P l.toArray C n (fun c w'=>C w'->JR P .any l.toArray C n q I g (qT (Array.replicate l.toArray.size false) (H1.map (·.1))) c w') H1 a w.drew)
 (s:∀c w',I c w'->C w'->cJ P l.toArray C n (fun a w=>Q .normal a w) (H++T) c w'):(Code.region id l.toArray true).wp P Q a w:=by
 simp only[Ui,Bool.and_eq_true,decide_eq_true_eq] at m;obtain⟨⟨⟨⟨⟨⟨⟨k,f⟩,i⟩,e⟩,d⟩,v⟩,r⟩,y⟩:=m;have B:HeadInv .any l.toArray n (Array.replicate l.toArray.size false):=
  ⟨qs,fun j D _ d=>(by rw[getD_replicate_false] at d;cases d),fun t _ z=>getD_in (by simpa using z) (getD_replicate_false _ _)⟩
 have h1:=sN (md:= .any) (F:=b+(H.length+T.length)) (Q:=fun a w=>Q .normal a w) k i e f H1 _ a w.drew B hC v h (fun c w' x o A=>Bq k i e f (fun a2 w2 h2 p inv2=>uF (md:= .any) k i e f H _ a2 w2 inv2 p y (s a2 w2 h2 p)) g b _ c w' A o r (x o));rw[d] at h1;exact wp_region_any hm (yC _ _ _ _ h1)
end
end Go.Proofs.YtjlkljmickcacaaGreatDoor
