/- Lemmas. -/
import Derived.Test.YtbpimcljljlbnaaGreatDoorMay
import Derived.Lib.ItoaNum
namespace Go.Proofs.YtbpimcljljlbnaaGreatDoor
open Go.RowKit
set_option linter.unusedVariables false
set_option linter.unusedSimpArgs false
set_option maxHeartbeats 16000000
set_option maxRecDepth 20000
def dA(s:String):List UInt8:=s.toUTF8.data.toList
def mI(n:Int):List UInt8:=Lib.itoa n
def FG(m:Mk):List UInt8:=
 if m=(0,0) then dA "NotApplicable" else if m=(4,0) then dA "Permit" else if m=(0,4) then dA "Deny"
 else if m=(2,0) then dA "Indeterminate"++[123,80,125] else if m=(0,2) then dA "Indeterminate"++[123,68,125] else if m=(2,2) then dA "Indeterminate"++[123,68,80,125] else []
def JG(n:Nat):UInt8:=if n<10 then UInt8.ofNat (48+n) else UInt8.ofNat (87+n)
def uK(c:UInt8):List UInt8:=if fD c then [c] else [92,JG (c.toNat / 16),JG (c.toNat % 16)]
def FH(l:lU):List UInt8:=[34]++l.flatMap uK++[34]
def vK(v:V3):List UInt8:=
 if aT v=false then []
 else if v.1=1 then (if v.2.1=1 then dA "true" else dA "false")
 else if v.1=4 then [64]++mI v.2.1
 else if v.1=5 then [35]++v.2.2.data.toList
 else if v.1=3 then FH v.2.2.data.toList
 else mI v.2.1
def yX(r:Rpl):List UInt8:=
 if r.err=12/\r.mark≠(4,0) then dA "denied "++FG r.mark
 else if r.err≠0/\0<r.at_ then dA "error "++mI r.err++dA " at "++mI r.at_
 else if r.err≠0 then dA "error "++mI r.err
 else if r.aDG=true then dA "glass"
 else if r.hidden=true then dA "hidden"
 else if r.val≠bD then dA "ok "++vK r.val
 else dA "ok"
def tF(r:Rpl):ByteArray:=bs (yX r)
def Fg:ByteArray:=str "what"
def fB(s:Sto)(q:lU):Sto×ByteArray:=
 match kX q with
 |none=>(s,Fg)
 |some o=>((cV s o).1,tF (cV s o).2.1)
theorem Zp(s:String):str s=bs (dA s):=by unfold str dA bs;rw[Array.toArray_toList]
theorem Wm{r:Rpl}(h:r.err≠0):∃l,yX r=100 ::l\/yX r=101 ::l:=by
 unfold yX;split
 .exact⟨_,.inl rfl⟩
 split
 .exact⟨_,.inr rfl⟩
 try rw[iP h]
 exact⟨_,.inr rfl⟩
theorem Wn{r:Rpl}(h:r.err≠0){s:String}{c:UInt8}{m:lU}(b:dA s=c::m)(h1:c≠100)(h2:c≠101):tF r≠str s:=by
 rw[Zp];intro e;have a:=Xl e;rw[b] at a;obtain⟨l,h3|h3⟩:=Wm h
 .rw[h3] at a;injection a with a;exact h1 a.symm
 .rw[h3] at a;injection a with a;exact h2 a.symm
theorem ZC{g:List Gv}{p:Po}(h:p.aDr=[]):∀n,jT g n p=p
 |0=>rfl
 |n+1=>by
  obtain⟨a,b,c,d,e,f,k⟩:=p;change f=[] at h;subst h;rfl
theorem Fh{g:List Gv}{p:Po}(h:p.aDr=[])(a:eY p=0):gH g p=(cY g 4 p,0):=by
 unfold gH;rw[iN (fun e=>e a),ZC h];unfold qL;rw[iN (fun e=>e a)]
def tG:Po:= .mk (str "p") false 5 [] [] [] []
theorem WH:eY tG=0:=by kernel_rfl
theorem WI(g:List Gv):gH g tG=(((0,4),[]),0):=by
 rw[Fh rfl WH];rfl
theorem WJ{r:Rpl}(h:r.err≠0):tF r≠str "glass":=Wn h (c:=103) (m:=[108,97,115,115]) rfl qe qe
theorem WK{s:Sto}(o:Op)(hp:s.aDd=tG)(g:s.aDp=[]):(cV s o).1=s/\tF (cV s o).2.1≠str "glass":=by
 have hw:=nI s o
 rcases b:cV s o with ⟨t,r,d,e⟩
 rw[b] at hw
 cases hw with
 |none _ _ he i _=>exact⟨rfl,WJ (by rw[i];exact he)⟩
 |some m l glass hidden v p n a f k j q=>
  rw[hp,WI] at a;injection a with h1 _;injection h1 with h2 h3;subst h2 h3;have c:glass=false:=by
   rw[f];unfold jV qU;rw[g];simp
  subst c;exact⟨rfl,WJ (show (12:Int)≠0 by decide)⟩
theorem WL(s:Sto)(o:Op):(dL s o).aDq<=s.aDq+1:=by
 unfold dL;dsimp only;have h0:s.aDq<=s.aDq+1:=qo;split
 .exact h0
 split
 .exact h0
 split
 .exact h0
 split
 .exact h0
 split
 .exact h0
 split
 .split<;>exact h0
 split
 .split
  .exact Int.le_refl _
  .exact h0
 split<;>exact h0
theorem RP(s:Sto)(o:Op):(cV s o).1.aDq<=s.aDq+1:=by
 have h:=nI s o
 rcases b:cV s o with ⟨t,r,d,e⟩
 rw[b] at h
 cases h with
 |none _ _ he k _=>show s.aDq<=s.aDq+1;omega
 |some m l glass hidden v n j g c i f p=>
  dsimp only;rw[(mT _ _ _ _).2];by_cases a:(decide (m=(4,0))||glass)=true
  .rw[iP a];have h1:=WL (if glass=true then gB s o o.aDB else s) o;rw[(gS glass s o o.aDB).2] at h1;exact h1
  .rw[iN a,(gS glass s o o.aDB).2];omega
def lG(k:Nat)(s:Sto):Prop:=AK s/\0<=s.aDq/\s.aDq<=(k:Int)
theorem lG.ok{k:Nat}{s:Sto}(h:lG k s):AK s:=h.1
theorem WM:lG 0 kW:=⟨Yv,qe,qe⟩
theorem lG.guard{k:Nat}{s:Sto}(h:lG k s)(o:Op):lG (k+1) (cV s o).1:=by
 have h1:=(YK s o).2;have h2:=RP s o;exact⟨(Jh s o h.1).1,qA h.2.1,qA h.2.2⟩
theorem lG.more{k m:Nat}{s:Sto}(h:lG k s)(hm:k<=m):lG m s:=⟨h.1,h.2.1,qA h.2.2⟩
theorem lG.line{k:Nat}{s:Sto}(h:lG k s)(q:lU):lG (k+1) (fB s q).1:=by
 unfold fB;split
 .exact h.more qo
 .exact h.guard _
def WN:=(fB kW (dA "ann new c"))
def WO:=(fB WN.1 (dA "ann write c f 7"))
def DZ:List UInt8:=dA "ann policy policy p first "++[123]++dA " deny d when (action.name = #write); permit r; "++[125]
def WQ:=(fB WO.1 DZ)
def WR:=(fB WQ.1 (dA "ann write c f 8"))
def Lr:=(fB WR.1 (dA "bob read c f"))
theorem qI:WN.2=str "ok"/\WO.2=str "ok"/\WQ.2=str "ok"/\WR.2=str "denied Deny"/\Lr.2=str "ok 7":=by
 refine⟨?_,?_,?_,?_,?_⟩<;>kernel_rfl
def LV:=(fB kW (dA "boss new c"))
def LW:=(fB LV.1 (dA "boss write c f 1"))
def AY(text:lU):=fB LW.1 (dA "boss policy "++text)
theorem LX:LV.2=str "ok"/\LW.2=str "ok":=by refine⟨?_,?_⟩<;>kernel_rfl
def tH:List UInt8:=dA "policy p denyunless "++[123,32,125]
theorem tT:(AY tH).2=str "ok"/\(AY tH).1.aDd=tG/\(AY tH).1.aDp=[]/\(AY tH).1.aDf=[]:=by refine⟨?_,?_,?_,?_⟩<;>kernel_rfl
section
variable {P:Program} {ops:Array Oper} {md:Region.Mode} {C:World->Prop} {Q:Exit->Act->World->Prop}
def qJ(listed:Array Bool)(l:List Nat):Array Bool:=l.foldl (fun L i=>L.setIfInBounds i true) listed
theorem QF{n:Nat}{Q:Act->World->Prop}:∀(f:Nat) (listed:Array Bool) (a:Act) (w:World),oW P md ops C n Q f listed a w->oW P md ops C n Q (f+1) listed a w
 |0,listed,a,w,h=>⟨fun _=>h.2,fun i b=>by rw[h.1] at b;cases b⟩
 |f+1,listed,a,w,h=>⟨h.1,fun i b=>TB (fun d w' c=>⟨c.1,QF f _ d w' c.2⟩) (h.2 i b)⟩
theorem Bf{n:Nat}{Q:Act->World->Prop}{f g:Nat}(h:f<=g){listed:Array Bool}{a:Act}{w:World}(b:oW P md ops C n Q f listed a w):oW P md ops C n Q g listed a w:=by
 induction h with
 |refl=>exact b
 |step _ c=>exact QF _ _ _ _ c
def FJ(md:Region.Mode)(ops:Array Oper)(n:Nat):List (Nat×Bool)->Array Bool->Bool
 | [],_=>true
 |(k,fl)::r,listed=>(if fl=true then Region.ready md ops listed==[k] else (Region.ready md ops listed).contains k&&Region.free md ops listed k)&&decide (k<n)&&FJ md ops n r (listed.setIfInBounds k true)
theorem sF{n F:Nat}{Q R:Act->World->Prop}(m:Region.noSelect ops=true)(l:Region.sinkB md ops n=true)(f:Region.chainB md ops n=true)(g:n<ops.size):∀(H:List (Nat×Bool)) (listed:Array Bool) (a:Act) (w:World),HeadInv md ops n listed->C w->FJ md ops n H listed=true->cG P ops C n R H a w->(∀d w',R d w'->C w'->HeadInv md ops n (qJ listed (H.map (·.1)))->oW P md ops C n Q F (qJ listed (H.map (·.1))) d w')->oW P md ops C n Q (H.length+F) listed a w
 | [],listed,a,w,inv,hw,hB,h,hK=>by
   rw[List.length_nil,Nat.zero_add];exact hK a w h hw inv
 |(k,true)::r,listed,a,w,inv,hw,hB,h,hK=>by
  simp only[FJ,if_true,Bool.and_eq_true,bQ,decide_eq_true_eq] at hB;obtain⟨⟨j,c⟩,e⟩:=hB;rw[List.length_cons,show r.length+1+F=(r.length+F)+1 by omega];refine IP j ?_;have t:=inv.set (i:=k) (by rw[j];exact List.mem_singleton.2 rfl) c;unfold cG at h;unfold uW
  cases b:ops[k]? with
  |none=>simp only[b] at h
  |some o=>
   simp only[b] at h ⊢;unfold mv at h;split
   .rename_i q;rw[iP q] at h;exact sV (fun d w' p=>⟨p.1,sF m l f g r _ d w' t (p.1 c) e p.2 hK⟩) h
   .rename_i q;rw[iN q] at h;exact⟨h.1,sF m l f g r _ _ w t (h.1 c) e h.2 hK⟩
 |(k,false)::r,listed,a,w,inv,hw,hB,h,hK=>by
  simp only[FJ,Bool.false_eq_true,if_false,Bool.and_eq_true,decide_eq_true_eq] at hB;obtain⟨⟨⟨j,x⟩,c⟩,e⟩:=hB;have s:k∈Region.ready md ops listed:=by simpa using j
  rw[List.length_cons,show r.length+1+F=(r.length+F)+1 by omega];unfold cG at h
  cases b:ops[k]? with
  |none=>simp only[b] at h
  |some o=>
   simp only[b] at h;obtain⟨v,z,h1,h2⟩:=yieldsAt_of_stOp b ((ET b).2 h);exact JY b (Region.noSelect_spec m) l f g c _ listed a w inv (Region.free_spec b x) s hw
    (fun w1 y=>yieldsAt_of_stOp b ((ET b).2 (h1 w1 y)))
    (sF m l f g r _ _ w (inv.set s c) hw e h2 hK)
def JH(P:Program)(md:Region.Mode)(ops:Array Oper)(C:World->Prop)(n:Nat)(b:Nat->List Nat)(I:Act->World->Prop):Nat->Array Bool->Act->World->Prop
 |0,_,a,w=>I a w
 |g+1,listed,a,w=>∀i∈Region.ready md ops listed,mv P ops ((ops[i]?).getD default) a w (fun c w'=>C w'/\cG P ops C n (fun d e=>JH P md ops C n b I g (qJ (listed.setIfInBounds i true) (b i)) d e) ((b i).map (·,false)) c w')
theorem gL{n g:Nat}{b:Nat->List Nat}{I:Act->World->Prop}{listed:Array Bool}{a:Act}{w:World}(L:List Nat)(f:Region.ready md ops listed=L)(h:∀i∈L,∃o,ops[i]? =some o/\∀K:Act->World->Prop,(∀c w',C w'->cG P ops C n (fun e k=>JH P md ops C n b I g (qJ (listed.setIfInBounds i true) (b i)) e k) ((b i).map (·,false)) c w'->K c w')->mv P ops o a w K):JH P md ops C n b I (g+1) listed a w:=by
 intro i d;rw[f] at d;obtain⟨o,j,h1⟩:=h i d;rw[j];exact h1 _ (fun c w' h2 h3=>⟨h2,h3⟩)
theorem Re{p:nP}{i:Nat}{L:List Nat}(h:p i)(a:∀j∈L,p j):∀j∈i::L,p j:=fun j hj=>by
 rcases List.mem_cons.1 hj with rfl|h1
 .exact h
 .exact a j h1
def LY(md:Region.Mode)(ops:Array Oper)(n:Nat)(a:Nat->List Nat)(c:Array Bool):Nat->Nat->Array Bool->Bool
 |0,_,listed=>decide (listed=c)
 |g+1,b,listed=> !(Region.ready md ops listed).isEmpty&&(Region.ready md ops listed).all (fun i=>decide (i<n)&&decide (1+(a i).length<=b)&&(ops[i]?).isSome&&FJ md ops n ((a i).map (·,false)) (listed.setIfInBounds i true)&&LY md ops n a c g (b - (1+(a i).length)) (qJ (listed.setIfInBounds i true) (a i)))
theorem Bg{n F:Nat}{Q:Act->World->Prop}{c:Nat->List Nat}{l:Array Bool}{I:Act->World->Prop}(B:Region.noSelect ops=true)(A:Region.sinkB md ops n=true)(v:Region.chainB md ops n=true)(y:n<ops.size)(s:∀d w',I d w'->C w'->HeadInv md ops n l->oW P md ops C n Q F l d w'):∀(g b:Nat) (listed:Array Bool) (a:Act) (w:World),HeadInv md ops n listed->C w->LY md ops n c l g b listed=true->JH P md ops C n c I g listed a w->oW P md ops C n Q (b+F) listed a w
 |0,b,listed,a,w,inv,hw,hB,h=>by
  have e:listed=l:=by simpa [LY] using hB
  subst e;exact Bf qo (s a w h hw inv)
 |g+1,b,listed,a,w,inv,hw,hB,h=>by
  simp only[LY,Bool.and_eq_true,Bool.not_eq_true',List.all_eq_true,decide_eq_true_eq] at hB;obtain⟨j,t⟩:=hB;have S:1<=b:=by
   cases z:Region.ready md ops listed with
   |nil=>rw[z] at j;cases j
   |cons i r=>have:=(t i (by rw[z];exact List.mem_cons_self)).1.1.1.2;omega
  obtain⟨f,K⟩:∃f,b+F=f+1:=⟨b+F - 1,qo⟩;rw[K];refine⟨fun h0=>(by rw[h0] at j;cases j),fun i p=> ?_⟩;obtain⟨⟨⟨⟨L,hlen⟩,N⟩,H⟩,G⟩:=t i p;have h1:=h i p;have O:=inv.set (i:=i) p L;obtain⟨o,M⟩:=Option.isSome_iff_exists.1 N;have x:∀(d:Act) (w':World),(C w'/\cG P ops C n (fun D R=>JH P md ops C n c I g (qJ (listed.setIfInBounds i true) (c i)) D R) ((c i).map (·,false)) d w')->((i<n->C w')/\oW P md ops C n Q f (listed.setIfInBounds i true) d w'):=fun d w' m=>by
   refine⟨fun _=>m.1,?_⟩;have e:((c i).map (fun k=>(k,false))).map (·.1)=c i:=by rw[List.map_map];exact List.map_id _
   have h2:=sF (F:=b - (1+(c i).length)+F) (Q:=Q) B A v y _ _ d w' O m.1 H m.2 (fun a2 w2 J E inv2=>by
    rw[e] at inv2 ⊢;exact Bg B A v y s g _ _ a2 w2 inv2 E G J)
   refine Bf ?_ h2;rw[List.length_map];omega
  unfold uW;rw[M] at h1 ⊢;unfold mv at h1;dsimp only[Option.getD_some] at h1 ⊢;split
  .rename_i q;rw[iP q] at h1;exact sV x h1
  .rename_i q;rw[iN q] at h1;exact x _ _ h1
def Tu(md:Region.Mode)(ops:Array Oper)(n:Nat)(H1:List (Nat×Bool))(g b:Nat)(a:Nat->List Nat)(H T:List (Nat×Bool)):Bool:=
 Region.noSelect ops&&decide (n<ops.size)&&Region.sinkB md ops n&&Region.chainB md ops n&&decide (H1.length+(b+(H.length+T.length))=ops.size)&&FJ md ops n H1 (Array.replicate ops.size false)&&LY md ops n a (qJ (Array.replicate ops.size false) ((H1.map (·.1))++(List.range ops.size).filter (fun i=> !(((H1.map (·.1))++(H.map (·.1))++(T.map (·.1))).contains i)))) g b (qJ (Array.replicate ops.size false) (H1.map (·.1)))&&ES md ops n T H (qJ (Array.replicate ops.size false) ((H1.map (·.1))++(List.range ops.size).filter (fun i=> !(((H1.map (·.1))++(H.map (·.1))++(T.map (·.1))).contains i))))
theorem LZ{id:Nat}{a:Act}{w:World}{l:List Oper}(n:Nat)(H1:List (Nat×Bool))(g b:Nat)(q:Nat->List Nat)(H T:List (Nat×Bool))(C:World->Prop)(I:Act->World->Prop)(hm:P.follows .mixedOrders=true)(m:Tu .any l.toArray n H1 g b q H T=true)(hC:C w.drew)
 (h:cG P l.toArray C n (fun c w'=>C w'->JH P .any l.toArray C n q I g (qJ (Array.replicate l.toArray.size false) (H1.map (·.1))) c w') H1 a w.drew)
 (s:∀c w',I c w'->C w'->cG P l.toArray C n (fun a w=>Q .normal a w) (H++T) c w'):(Code.region id l.toArray true).wp P Q a w:=by
 simp only[Tu,Bool.and_eq_true,decide_eq_true_eq] at m;obtain⟨⟨⟨⟨⟨⟨⟨k,f⟩,i⟩,e⟩,d⟩,v⟩,r⟩,y⟩:=m;have B:HeadInv .any l.toArray n (Array.replicate l.toArray.size false):=
  ⟨qs,fun j D _ d=>(by rw[getD_replicate_false] at d;cases d),fun t _ z=>getD_in (by simpa using z) (getD_replicate_false _ _)⟩
 have h1:=sF (md:= .any) (F:=b+(H.length+T.length)) (Q:=fun a w=>Q .normal a w) k i e f H1 _ a w.drew B hC v h (fun c w' x o A=>Bg k i e f (fun a2 w2 h2 p inv2=>uB (md:= .any) k i e f H _ a2 w2 inv2 p y (s a2 w2 h2 p)) g b _ c w' A o r (x o));rw[d] at h1;exact wp_region_any hm (xU _ _ _ _ h1)
end
end Go.Proofs.YtbpimcljljlbnaaGreatDoor
