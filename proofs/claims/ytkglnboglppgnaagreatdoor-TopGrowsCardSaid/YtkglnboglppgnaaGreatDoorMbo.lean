/- Lemmas. -/
import Derived.Test.YtkglnboglppgnaaGreatDoorMay
import Derived.Lib.ItoaNum
namespace Go.Proofs.YtkglnboglppgnaaGreatDoor
open Go.RowKit
set_option linter.unusedVariables false
set_option linter.unusedSimpArgs false
set_option maxHeartbeats 16000000
set_option maxRecDepth 20000
def fC(s:String):List UInt8:=s.toUTF8.data.toList
def mL(n:Int):List UInt8:=Lib.itoa n
def FL(m:Mk):List UInt8:=
 if m=(0,0) then fC "NotApplicable" else if m=(4,0) then fC "Permit" else if m=(0,4) then fC "Deny"
 else if m=(2,0) then fC "Indeterminate"++[123,80,125] else if m=(0,2) then fC "Indeterminate"++[123,68,125] else if m=(2,2) then fC "Indeterminate"++[123,68,80,125] else []
def JL(n:Nat):UInt8:=if n<10 then UInt8.ofNat (48+n) else UInt8.ofNat (87+n)
def uH(c:UInt8):List UInt8:=if fF c then [c] else [92,JL (c.toNat / 16),JL (c.toNat % 16)]
def FM(l:lU):List UInt8:=[34]++l.flatMap uH++[34]
def vI(v:V3):List UInt8:=
 if aU v=false then []
 else if v.1=1 then (if v.2.1=1 then fC "true" else fC "false")
 else if v.1=4 then [64]++mL v.2.1
 else if v.1=5 then [35]++v.2.2.data.toList
 else if v.1=3 then FM v.2.2.data.toList
 else mL v.2.1
def Bc(r:Rpl):List UInt8:=
 if r.err=12/\r.mark≠(4,0) then fC "denied "++FL r.mark
 else if r.err≠0/\0<r.at_ then fC "error "++mL r.err++fC " at "++mL r.at_
 else if r.err≠0 then fC "error "++mL r.err
 else if r.aDw=true then fC "glass"
 else if r.hidden=true then fC "hidden"
 else if r.val≠bF then fC "ok "++vI r.val
 else fC "ok"
def FN(r:Rpl):ByteArray:=bs (Bc r)
def Tq:ByteArray:=str "what"
def gV(s:Sto)(q:lU):Sto×ByteArray:=
 match kY q with
 |none=>(s,Tq)
 |some o=>((cQ s o).1,FN (cQ s o).2.1)
theorem QG(s:Sto)(o:Op):(cX s o).aC5.length=s.aC5.length/\(o.aC3≠5->(cX s o).aC5=s.aC5):=by
 unfold cX;dsimp only;split
 .exact⟨rfl,fun _=>rfl⟩
 split
 .exact⟨rfl,fun _=>rfl⟩
 split
 .exact⟨rfl,fun _=>rfl⟩
 split
 .exact⟨rfl,fun _=>rfl⟩
 split
 .rename_i h5;refine⟨?_,fun h=>absurd h5 h⟩;dsimp only;split
  .exact List.length_set
  .rfl
 split
 .split<;>exact⟨rfl,fun _=>rfl⟩
 split
 .split<;>exact⟨rfl,fun _=>rfl⟩
 split<;>exact⟨rfl,fun _=>rfl⟩
theorem LY(s:Sto)(o:Op):s.aC5.length<=(cQ s o).1.aC5.length/\∀r∈(cQ s o).1.aC5.drop s.aC5.length,(r.aDb=s.aDb\/r.aDb=(cQ s o).1.aDb)/\r.open_=true:=by
 have hw:=lX s o
 rcases j:cQ s o with ⟨t,r,d,e⟩
 rw[j] at hw
 cases hw with
 |none _ _ he a _=>
  refine⟨lR _,fun r h=> ?_⟩;rw[List.drop_length] at h
  cases h
 |some m l glass hidden v p z w n y q A=>
  dsimp only;have g:∃X b,(if (decide (m=(4,0))||glass)=true then cX (if glass=true then eJ s o o.aDp else s) o else (if glass=true then eJ s o o.aDp else s)).aC5=X++b/\X.length=s.aC5.length/\∀r∈b,r.aDb=s.aDb/\r.open_=true:=by
   cases k:glass
   .simp only[Bool.or_false,Bool.false_eq_true,if_false];refine⟨_,[],(List.append_nil _).symm,?_,fun r h=>by cases h⟩;split
    .exact(QG s o).1
    .rfl
   .have x:=Ch p (m:=m) (by rw[<-n,k]);simp only[Bool.or_true,if_true];rw[(QG _ o).2 qo];exact⟨s.aC5,_,rfl,rfl,fun r h=>by rw[List.mem_singleton] at h;rw[h];exact⟨rfl,rfl⟩⟩
  obtain⟨B,f,h2⟩:=xZ o (decide (m=(4,0))||glass) l (if (decide (m=(4,0))||glass)=true then cX (if glass=true then eJ s o o.aDp else s) o else (if glass=true then eJ s o o.aDp else s));rw[tL,f];obtain⟨X,b,c,i,h1⟩:=g;rw[c];refine⟨by simp only[aL];omega,fun r a=> ?_⟩;rw[<-i,List.append_assoc,List.drop_left] at a
  rcases List.mem_append.1 a with a|a
  .exact⟨.inl (h1 r a).1,(h1 r a).2⟩
  .exact⟨.inr (h2 r a).1,(h2 r a).2⟩
theorem WK(s:Sto)(o:Op):(cX s o).aDg<=s.aDg+1:=by
 unfold cX;dsimp only;have h0:s.aDg<=s.aDg+1:=qo;split
 .exact h0
 split
 .exact h0
 split
 .exact h0
 split
 .exact h0
 split
 .exact h0
 split
 .split<;>exact h0
 split
 .split
  .exact Int.le_refl _
  .exact h0
 split<;>exact h0
theorem RS(s:Sto)(o:Op):(cQ s o).1.aDg<=s.aDg+1:=by
 have h:=lX s o
 rcases b:cQ s o with ⟨t,r,d,e⟩
 rw[b] at h
 cases h with
 |none _ _ he k _=>show s.aDg<=s.aDg+1;omega
 |some m l glass hidden v n j g c i f p=>
  dsimp only;rw[(mZ _ _ _ _).2];by_cases a:(decide (m=(4,0))||glass)=true
  .rw[iP a];have h1:=WK (if glass=true then eJ s o o.aDp else s) o;rw[(gU glass s o o.aDp).2] at h1;exact h1
  .rw[iN a,(gU glass s o o.aDp).2];omega
def mJ(k:Nat)(s:Sto):Prop:=AN s/\0<=s.aDg/\s.aDg<=(k:Int)
theorem mJ.ok{k:Nat}{s:Sto}(h:mJ k s):AN s:=h.1
theorem WL:mJ 0 mT:=⟨Yq,qe,qe⟩
theorem mJ.guard{k:Nat}{s:Sto}(h:mJ k s)(o:Op):mJ (k+1) (cQ s o).1:=by
 have h1:=(xY s o).2;have h2:=RS s o;exact⟨(Jg s o h.1).1,qA h.2.1,qA h.2.2⟩
theorem mJ.more{k m:Nat}{s:Sto}(h:mJ k s)(hm:k<=m):mJ m s:=⟨h.1,h.2.1,qA h.2.2⟩
theorem mJ.line{k:Nat}{s:Sto}(h:mJ k s)(q:lU):mJ (k+1) (gV s q).1:=by
 unfold gV;split
 .exact h.more qo
 .exact h.guard _
def WM:=(gV mT (fC "ann new c"))
def WN:=(gV WM.1 (fC "ann write c f 7"))
def ED:List UInt8:=fC "ann policy policy p first "++[123]++fC " deny d when (action.name = #write); permit r; "++[125]
def WO:=(gV WN.1 ED)
def WQ:=(gV WO.1 (fC "ann write c f 8"))
def Lq:=(gV WQ.1 (fC "bob read c f"))
theorem qL:WM.2=str "ok"/\WN.2=str "ok"/\WO.2=str "ok"/\WQ.2=str "denied Deny"/\Lq.2=str "ok 7":=by
 refine⟨?_,?_,?_,?_,?_⟩<;>kernel_rfl
section
variable {P:Program} {ops:Array Oper} {md:Region.Mode} {C:World->Prop} {Q:Exit->Act->World->Prop}
def qM(listed:Array Bool)(l:List Nat):Array Bool:=l.foldl (fun L i=>L.setIfInBounds i true) listed
theorem QH{n:Nat}{Q:Act->World->Prop}:∀(f:Nat) (listed:Array Bool) (a:Act) (w:World),oX P md ops C n Q f listed a w->oX P md ops C n Q (f+1) listed a w
 |0,listed,a,w,h=>⟨fun _=>h.2,fun i b=>by rw[h.1] at b;cases b⟩
 |f+1,listed,a,w,h=>⟨h.1,fun i b=>TD (fun d w' c=>⟨c.1,QH f _ d w' c.2⟩) (h.2 i b)⟩
theorem Bd{n:Nat}{Q:Act->World->Prop}{f g:Nat}(h:f<=g){listed:Array Bool}{a:Act}{w:World}(b:oX P md ops C n Q f listed a w):oX P md ops C n Q g listed a w:=by
 induction h with
 |refl=>exact b
 |step _ c=>exact QH _ _ _ _ c
def FO(md:Region.Mode)(ops:Array Oper)(n:Nat):List (Nat×Bool)->Array Bool->Bool
 | [],_=>true
 |(k,fl)::r,listed=>(if fl=true then Region.ready md ops listed==[k] else (Region.ready md ops listed).contains k&&Region.free md ops listed k)&&decide (k<n)&&FO md ops n r (listed.setIfInBounds k true)
theorem sG{n F:Nat}{Q R:Act->World->Prop}(m:Region.noSelect ops=true)(l:Region.sinkB md ops n=true)(f:Region.chainB md ops n=true)(g:n<ops.size):∀(H:List (Nat×Bool)) (listed:Array Bool) (a:Act) (w:World),HeadInv md ops n listed->C w->FO md ops n H listed=true->cH P ops C n R H a w->(∀d w',R d w'->C w'->HeadInv md ops n (qM listed (H.map (·.1)))->oX P md ops C n Q F (qM listed (H.map (·.1))) d w')->oX P md ops C n Q (H.length+F) listed a w
 | [],listed,a,w,inv,hw,hB,h,hK=>by
   rw[List.length_nil,Nat.zero_add];exact hK a w h hw inv
 |(k,true)::r,listed,a,w,inv,hw,hB,h,hK=>by
  simp only[FO,if_true,Bool.and_eq_true,bQ,decide_eq_true_eq] at hB;obtain⟨⟨j,c⟩,e⟩:=hB;rw[List.length_cons,show r.length+1+F=(r.length+F)+1 by omega];refine IU j ?_;have t:=inv.set (i:=k) (by rw[j];exact List.mem_singleton.2 rfl) c;unfold cH at h;unfold uU
  cases b:ops[k]? with
  |none=>simp only[b] at h
  |some o=>
   simp only[b] at h ⊢;unfold mv at h;split
   .rename_i q;rw[iP q] at h;exact sV (fun d w' p=>⟨p.1,sG m l f g r _ d w' t (p.1 c) e p.2 hK⟩) h
   .rename_i q;rw[iN q] at h;exact⟨h.1,sG m l f g r _ _ w t (h.1 c) e h.2 hK⟩
 |(k,false)::r,listed,a,w,inv,hw,hB,h,hK=>by
  simp only[FO,Bool.false_eq_true,if_false,Bool.and_eq_true,decide_eq_true_eq] at hB;obtain⟨⟨⟨j,x⟩,c⟩,e⟩:=hB;have s:k∈Region.ready md ops listed:=by simpa using j
  rw[List.length_cons,show r.length+1+F=(r.length+F)+1 by omega];unfold cH at h
  cases b:ops[k]? with
  |none=>simp only[b] at h
  |some o=>
   simp only[b] at h;obtain⟨v,z,h1,h2⟩:=yieldsAt_of_stOp b ((EX b).2 h);exact KC b (Region.noSelect_spec m) l f g c _ listed a w inv (Region.free_spec b x) s hw
    (fun w1 y=>yieldsAt_of_stOp b ((EX b).2 (h1 w1 y)))
    (sG m l f g r _ _ w (inv.set s c) hw e h2 hK)
def JM(P:Program)(md:Region.Mode)(ops:Array Oper)(C:World->Prop)(n:Nat)(b:Nat->List Nat)(I:Act->World->Prop):Nat->Array Bool->Act->World->Prop
 |0,_,a,w=>I a w
 |g+1,listed,a,w=>∀i∈Region.ready md ops listed,mv P ops ((ops[i]?).getD default) a w (fun c w'=>C w'/\cH P ops C n (fun d e=>JM P md ops C n b I g (qM (listed.setIfInBounds i true) (b i)) d e) ((b i).map (·,false)) c w')
theorem gN{n g:Nat}{b:Nat->List Nat}{I:Act->World->Prop}{listed:Array Bool}{a:Act}{w:World}(L:List Nat)(f:Region.ready md ops listed=L)(h:∀i∈L,∃o,ops[i]? =some o/\∀K:Act->World->Prop,(∀c w',C w'->cH P ops C n (fun e k=>JM P md ops C n b I g (qM (listed.setIfInBounds i true) (b i)) e k) ((b i).map (·,false)) c w'->K c w')->mv P ops o a w K):JM P md ops C n b I (g+1) listed a w:=by
 intro i d;rw[f] at d;obtain⟨o,j,h1⟩:=h i d;rw[j];exact h1 _ (fun c w' h2 h3=>⟨h2,h3⟩)
theorem Ra{p:nP}{i:Nat}{L:List Nat}(h:p i)(a:∀j∈L,p j):∀j∈i::L,p j:=fun j hj=>by
 rcases List.mem_cons.1 hj with rfl|h1
 .exact h
 .exact a j h1
def LZ(md:Region.Mode)(ops:Array Oper)(n:Nat)(a:Nat->List Nat)(c:Array Bool):Nat->Nat->Array Bool->Bool
 |0,_,listed=>decide (listed=c)
 |g+1,b,listed=> !(Region.ready md ops listed).isEmpty&&(Region.ready md ops listed).all (fun i=>decide (i<n)&&decide (1+(a i).length<=b)&&(ops[i]?).isSome&&FO md ops n ((a i).map (·,false)) (listed.setIfInBounds i true)&&LZ md ops n a c g (b - (1+(a i).length)) (qM (listed.setIfInBounds i true) (a i)))
theorem Be{n F:Nat}{Q:Act->World->Prop}{c:Nat->List Nat}{l:Array Bool}{I:Act->World->Prop}(B:Region.noSelect ops=true)(A:Region.sinkB md ops n=true)(v:Region.chainB md ops n=true)(y:n<ops.size)(s:∀d w',I d w'->C w'->HeadInv md ops n l->oX P md ops C n Q F l d w'):∀(g b:Nat) (listed:Array Bool) (a:Act) (w:World),HeadInv md ops n listed->C w->LZ md ops n c l g b listed=true->JM P md ops C n c I g listed a w->oX P md ops C n Q (b+F) listed a w
 |0,b,listed,a,w,inv,hw,hB,h=>by
  have e:listed=l:=by simpa [LZ] using hB
  subst e;exact Bd qo (s a w h hw inv)
 |g+1,b,listed,a,w,inv,hw,hB,h=>by
  simp only[LZ,Bool.and_eq_true,Bool.not_eq_true',List.all_eq_true,decide_eq_true_eq] at hB;obtain⟨j,t⟩:=hB;have S:1<=b:=by
   cases z:Region.ready md ops listed with
   |nil=>rw[z] at j;cases j
   |cons i r=>have:=(t i (by rw[z];exact List.mem_cons_self)).1.1.1.2;omega
  obtain⟨f,K⟩:∃f,b+F=f+1:=⟨b+F - 1,qo⟩;rw[K];refine⟨fun h0=>(by rw[h0] at j;cases j),fun i p=> ?_⟩;obtain⟨⟨⟨⟨L,hlen⟩,N⟩,H⟩,G⟩:=t i p;have h1:=h i p;have O:=inv.set (i:=i) p L;obtain⟨o,M⟩:=Option.isSome_iff_exists.1 N;have x:∀(d:Act) (w':World),(C w'/\cH P ops C n (fun D R=>JM P md ops C n c I g (qM (listed.setIfInBounds i true) (c i)) D R) ((c i).map (·,false)) d w')->((i<n->C w')/\oX P md ops C n Q f (listed.setIfInBounds i true) d w'):=fun d w' m=>by
   refine⟨fun _=>m.1,?_⟩;have e:((c i).map (fun k=>(k,false))).map (·.1)=c i:=by rw[List.map_map];exact List.map_id _
   have h2:=sG (F:=b - (1+(c i).length)+F) (Q:=Q) B A v y _ _ d w' O m.1 H m.2 (fun a2 w2 J E inv2=>by
    rw[e] at inv2 ⊢;exact Be B A v y s g _ _ a2 w2 inv2 E G J)
   refine Bd ?_ h2;rw[List.length_map];omega
  unfold uU;rw[M] at h1 ⊢;unfold mv at h1;dsimp only[Option.getD_some] at h1 ⊢;split
  .rename_i q;rw[iP q] at h1;exact sV x h1
  .rename_i q;rw[iN q] at h1;exact x _ _ h1
def Tr(md:Region.Mode)(ops:Array Oper)(n:Nat)(H1:List (Nat×Bool))(g b:Nat)(a:Nat->List Nat)(H T:List (Nat×Bool)):Bool:=
 Region.noSelect ops&&decide (n<ops.size)&&Region.sinkB md ops n&&Region.chainB md ops n&&decide (H1.length+(b+(H.length+T.length))=ops.size)&&FO md ops n H1 (Array.replicate ops.size false)&&LZ md ops n a (qM (Array.replicate ops.size false) ((H1.map (·.1))++(List.range ops.size).filter (fun i=> !(((H1.map (·.1))++(H.map (·.1))++(T.map (·.1))).contains i)))) g b (qM (Array.replicate ops.size false) (H1.map (·.1)))&&EW md ops n T H (qM (Array.replicate ops.size false) ((H1.map (·.1))++(List.range ops.size).filter (fun i=> !(((H1.map (·.1))++(H.map (·.1))++(T.map (·.1))).contains i))))
theorem MA{id:Nat}{a:Act}{w:World}{l:List Oper}(n:Nat)(H1:List (Nat×Bool))(g b:Nat)(q:Nat->List Nat)(H T:List (Nat×Bool))(C:World->Prop)(I:Act->World->Prop)(hm:P.follows .mixedOrders=true)(m:Tr .any l.toArray n H1 g b q H T=true)(hC:C w.drew)
 (h:cH P l.toArray C n (fun c w'=>C w'->JM P .any l.toArray C n q I g (qM (Array.replicate l.toArray.size false) (H1.map (·.1))) c w') H1 a w.drew)
 (s:∀c w',I c w'->C w'->cH P l.toArray C n (fun a w=>Q .normal a w) (H++T) c w'):(Code.region id l.toArray true).wp P Q a w:=by
 simp only[Tr,Bool.and_eq_true,decide_eq_true_eq] at m;obtain⟨⟨⟨⟨⟨⟨⟨k,f⟩,i⟩,e⟩,d⟩,v⟩,r⟩,y⟩:=m;have B:HeadInv .any l.toArray n (Array.replicate l.toArray.size false):=
  ⟨qs,fun j D _ d=>(by rw[getD_replicate_false] at d;cases d),fun t _ z=>getD_in (by simpa using z) (getD_replicate_false _ _)⟩
 have h1:=sG (md:= .any) (F:=b+(H.length+T.length)) (Q:=fun a w=>Q .normal a w) k i e f H1 _ a w.drew B hC v h (fun c w' x o A=>Be k i e f (fun a2 w2 h2 p inv2=>tY (md:= .any) k i e f H _ a2 w2 inv2 p y (s a2 w2 h2 p)) g b _ c w' A o r (x o));rw[d] at h1;exact wp_region_any hm (xU _ _ _ _ h1)
end
end Go.Proofs.YtkglnboglppgnaaGreatDoor
