/- Lemmas. -/
import Derived.Test.YtbinmcabjnoliaaGreatDoorMay
import Derived.Lib.ItoaNum
namespace Go.Proofs.YtbinmcabjnoliaaGreatDoor
open Go.RowKit
set_option linter.unusedVariables false
set_option linter.unusedSimpArgs false
set_option maxHeartbeats 16000000
set_option maxRecDepth 20000
def fA(s:String):List UInt8:=s.toUTF8.data.toList
def mI(n:Int):List UInt8:=Lib.itoa n
def FE(m:Mk):List UInt8:=
 if m=(0,0) then fA "NotApplicable" else if m=(4,0) then fA "Permit" else if m=(0,4) then fA "Deny"
 else if m=(2,0) then fA "Indeterminate"++[123,80,125] else if m=(0,2) then fA "Indeterminate"++[123,68,125] else if m=(2,2) then fA "Indeterminate"++[123,68,80,125] else []
def JI(n:Nat):UInt8:=if n<10 then UInt8.ofNat (48+n) else UInt8.ofNat (87+n)
def uG(c:UInt8):List UInt8:=if fC c then [c] else [92,JI (c.toNat / 16),JI (c.toNat % 16)]
def FF(l:lU):List UInt8:=[34]++l.flatMap uG++[34]
def vH(v:V3):List UInt8:=
 if aT v=false then []
 else if v.1=1 then (if v.2.1=1 then fA "true" else fA "false")
 else if v.1=4 then [64]++mI v.2.1
 else if v.1=5 then [35]++v.2.2.data.toList
 else if v.1=3 then FF v.2.2.data.toList
 else mI v.2.1
def Ar(r:Rpl):List UInt8:=
 if r.err=12/\r.mark≠(4,0) then fA "denied "++FE r.mark
 else if r.err≠0/\0<r.at_ then fA "error "++mI r.err++fA " at "++mI r.at_
 else if r.err≠0 then fA "error "++mI r.err
 else if r.aDk=true then fA "glass"
 else if r.hidden=true then fA "hidden"
 else if r.val≠bD then fA "ok "++vH r.val
 else fA "ok"
def FG(r:Rpl):ByteArray:=bs (Ar r)
def Te:ByteArray:=str "what"
def eL(s:Sto)(q:lU):Sto×ByteArray:=
 match kW q with
 |none=>(s,Te)
 |some o=>((cY s o).1,FG (cY s o).2.1)
theorem VZ(s:Sto)(o:Op):(dI s o).aC2<=s.aC2+1:=by
 unfold dI;dsimp only;have h0:s.aC2<=s.aC2+1:=qo;split
 .exact h0
 split
 .exact h0
 split
 .exact h0
 split
 .exact h0
 split
 .exact h0
 split
 .split<;>exact h0
 split
 .split
  .exact Int.le_refl _
  .exact h0
 split<;>exact h0
theorem RJ(s:Sto)(o:Op):(cY s o).1.aC2<=s.aC2+1:=by
 have h:=nK s o
 rcases b:cY s o with ⟨t,r,d,e⟩
 rw[b] at h
 cases h with
 |none _ _ he k _=>show s.aC2<=s.aC2+1;omega
 |some m l glass hidden v n j g c i f p=>
  dsimp only;rw[(mV _ _ _ _).2];by_cases a:(decide (m=(4,0))||glass)=true
  .rw[iP a];have h1:=VZ (if glass=true then gB s o o.aDf else s) o;rw[(gR glass s o o.aDf).2] at h1;exact h1
  .rw[iN a,(gR glass s o o.aDf).2];omega
def mG(k:Nat)(s:Sto):Prop:=vB s/\0<=s.aC2/\s.aC2<=(k:Int)
theorem mG.ok{k:Nat}{s:Sto}(h:mG k s):vB s:=h.1
theorem WA:mG 0 mQ:=⟨Yf,qe,qe⟩
theorem mG.guard{k:Nat}{s:Sto}(h:mG k s)(o:Op):mG (k+1) (cY s o).1:=by
 have h1:=(GF s o).2;have h2:=RJ s o;exact⟨(DN s o h.1).1,qA h.2.1,qA h.2.2⟩
theorem mG.more{k m:Nat}{s:Sto}(h:mG k s)(hm:k<=m):mG m s:=⟨h.1,h.2.1,qA h.2.2⟩
theorem mG.line{k:Nat}{s:Sto}(h:mG k s)(q:lU):mG (k+1) (eL s q).1:=by
 unfold eL;split
 .exact h.more qo
 .exact h.guard _
def WB:=(eL mQ (fA "ann new c"))
def WC:=(eL WB.1 (fA "ann write c f 7"))
def DY:List UInt8:=fA "ann policy policy p first "++[123]++fA " deny d when (action.name = #write); permit r; "++[125]
def WE:=(eL WC.1 DY)
def WG:=(eL WE.1 (fA "ann write c f 8"))
def Ld:=(eL WG.1 (fA "bob read c f"))
theorem qH:WB.2=str "ok"/\WC.2=str "ok"/\WE.2=str "ok"/\WG.2=str "denied Deny"/\Ld.2=str "ok 7":=by
 refine⟨?_,?_,?_,?_,?_⟩<;>kernel_rfl
section
variable {P:Program} {ops:Array Oper} {md:Region.Mode} {C:World->Prop} {Q:Exit->Act->World->Prop}
def qI(listed:Array Bool)(l:List Nat):Array Bool:=l.foldl (fun L i=>L.setIfInBounds i true) listed
theorem QC{n:Nat}{Q:Act->World->Prop}:∀(f:Nat) (listed:Array Bool) (a:Act) (w:World),oU P md ops C n Q f listed a w->oU P md ops C n Q (f+1) listed a w
 |0,listed,a,w,h=>⟨fun _=>h.2,fun i b=>by rw[h.1] at b;cases b⟩
 |f+1,listed,a,w,h=>⟨h.1,fun i b=>SW (fun d w' c=>⟨c.1,QC f _ d w' c.2⟩) (h.2 i b)⟩
theorem As{n:Nat}{Q:Act->World->Prop}{f g:Nat}(h:f<=g){listed:Array Bool}{a:Act}{w:World}(b:oU P md ops C n Q f listed a w):oU P md ops C n Q g listed a w:=by
 induction h with
 |refl=>exact b
 |step _ c=>exact QC _ _ _ _ c
def FH(md:Region.Mode)(ops:Array Oper)(n:Nat):List (Nat×Bool)->Array Bool->Bool
 | [],_=>true
 |(k,fl)::r,listed=>(if fl=true then Region.ready md ops listed==[k] else (Region.ready md ops listed).contains k&&Region.free md ops listed k)&&decide (k<n)&&FH md ops n r (listed.setIfInBounds k true)
theorem sF{n F:Nat}{Q R:Act->World->Prop}(m:Region.noSelect ops=true)(l:Region.sinkB md ops n=true)(f:Region.chainB md ops n=true)(g:n<ops.size):∀(H:List (Nat×Bool)) (listed:Array Bool) (a:Act) (w:World),HeadInv md ops n listed->C w->FH md ops n H listed=true->cG P ops C n R H a w->(∀d w',R d w'->C w'->HeadInv md ops n (qI listed (H.map (·.1)))->oU P md ops C n Q F (qI listed (H.map (·.1))) d w')->oU P md ops C n Q (H.length+F) listed a w
 | [],listed,a,w,inv,hw,hB,h,hK=>by
   rw[List.length_nil,Nat.zero_add];exact hK a w h hw inv
 |(k,true)::r,listed,a,w,inv,hw,hB,h,hK=>by
  simp only[FH,if_true,Bool.and_eq_true,bQ,decide_eq_true_eq] at hB;obtain⟨⟨j,c⟩,e⟩:=hB;rw[List.length_cons,show r.length+1+F=(r.length+F)+1 by omega];refine IS j ?_;have t:=inv.set (i:=k) (by rw[j];exact List.mem_singleton.2 rfl) c;unfold cG at h;unfold uS
  cases b:ops[k]? with
  |none=>simp only[b] at h
  |some o=>
   simp only[b] at h ⊢;unfold mv at h;split
   .rename_i q;rw[iP q] at h;exact sV (fun d w' p=>⟨p.1,sF m l f g r _ d w' t (p.1 c) e p.2 hK⟩) h
   .rename_i q;rw[iN q] at h;exact⟨h.1,sF m l f g r _ _ w t (h.1 c) e h.2 hK⟩
 |(k,false)::r,listed,a,w,inv,hw,hB,h,hK=>by
  simp only[FH,Bool.false_eq_true,if_false,Bool.and_eq_true,decide_eq_true_eq] at hB;obtain⟨⟨⟨j,x⟩,c⟩,e⟩:=hB;have s:k∈Region.ready md ops listed:=by simpa using j
  rw[List.length_cons,show r.length+1+F=(r.length+F)+1 by omega];unfold cG at h
  cases b:ops[k]? with
  |none=>simp only[b] at h
  |some o=>
   simp only[b] at h;obtain⟨v,z,h1,h2⟩:=yieldsAt_of_stOp b ((ES b).2 h);exact JY b (Region.noSelect_spec m) l f g c _ listed a w inv (Region.free_spec b x) s hw
    (fun w1 y=>yieldsAt_of_stOp b ((ES b).2 (h1 w1 y)))
    (sF m l f g r _ _ w (inv.set s c) hw e h2 hK)
def JK(P:Program)(md:Region.Mode)(ops:Array Oper)(C:World->Prop)(n:Nat)(b:Nat->List Nat)(I:Act->World->Prop):Nat->Array Bool->Act->World->Prop
 |0,_,a,w=>I a w
 |g+1,listed,a,w=>∀i∈Region.ready md ops listed,mv P ops ((ops[i]?).getD default) a w (fun c w'=>C w'/\cG P ops C n (fun d e=>JK P md ops C n b I g (qI (listed.setIfInBounds i true) (b i)) d e) ((b i).map (·,false)) c w')
theorem gK{n g:Nat}{b:Nat->List Nat}{I:Act->World->Prop}{listed:Array Bool}{a:Act}{w:World}(L:List Nat)(f:Region.ready md ops listed=L)(h:∀i∈L,∃o,ops[i]? =some o/\∀K:Act->World->Prop,(∀c w',C w'->cG P ops C n (fun e k=>JK P md ops C n b I g (qI (listed.setIfInBounds i true) (b i)) e k) ((b i).map (·,false)) c w'->K c w')->mv P ops o a w K):JK P md ops C n b I (g+1) listed a w:=by
 intro i d;rw[f] at d;obtain⟨o,j,h1⟩:=h i d;rw[j];exact h1 _ (fun c w' h2 h3=>⟨h2,h3⟩)
theorem Qn{p:nP}{i:Nat}{L:List Nat}(h:p i)(a:∀j∈L,p j):∀j∈i::L,p j:=fun j hj=>by
 rcases List.mem_cons.1 hj with rfl|h1
 .exact h
 .exact a j h1
def LW(md:Region.Mode)(ops:Array Oper)(n:Nat)(a:Nat->List Nat)(c:Array Bool):Nat->Nat->Array Bool->Bool
 |0,_,listed=>decide (listed=c)
 |g+1,b,listed=> !(Region.ready md ops listed).isEmpty&&(Region.ready md ops listed).all (fun i=>decide (i<n)&&decide (1+(a i).length<=b)&&(ops[i]?).isSome&&FH md ops n ((a i).map (·,false)) (listed.setIfInBounds i true)&&LW md ops n a c g (b - (1+(a i).length)) (qI (listed.setIfInBounds i true) (a i)))
theorem Au{n F:Nat}{Q:Act->World->Prop}{c:Nat->List Nat}{l:Array Bool}{I:Act->World->Prop}(B:Region.noSelect ops=true)(A:Region.sinkB md ops n=true)(v:Region.chainB md ops n=true)(y:n<ops.size)(s:∀d w',I d w'->C w'->HeadInv md ops n l->oU P md ops C n Q F l d w'):∀(g b:Nat) (listed:Array Bool) (a:Act) (w:World),HeadInv md ops n listed->C w->LW md ops n c l g b listed=true->JK P md ops C n c I g listed a w->oU P md ops C n Q (b+F) listed a w
 |0,b,listed,a,w,inv,hw,hB,h=>by
  have e:listed=l:=by simpa [LW] using hB
  subst e;exact As qo (s a w h hw inv)
 |g+1,b,listed,a,w,inv,hw,hB,h=>by
  simp only[LW,Bool.and_eq_true,Bool.not_eq_true',List.all_eq_true,decide_eq_true_eq] at hB;obtain⟨j,t⟩:=hB;have S:1<=b:=by
   cases z:Region.ready md ops listed with
   |nil=>rw[z] at j;cases j
   |cons i r=>have:=(t i (by rw[z];exact List.mem_cons_self)).1.1.1.2;omega
  obtain⟨f,K⟩:∃f,b+F=f+1:=⟨b+F - 1,qo⟩;rw[K];refine⟨fun h0=>(by rw[h0] at j;cases j),fun i p=> ?_⟩;obtain⟨⟨⟨⟨L,hlen⟩,N⟩,H⟩,G⟩:=t i p;have h1:=h i p;have O:=inv.set (i:=i) p L;obtain⟨o,M⟩:=Option.isSome_iff_exists.1 N;have x:∀(d:Act) (w':World),(C w'/\cG P ops C n (fun D R=>JK P md ops C n c I g (qI (listed.setIfInBounds i true) (c i)) D R) ((c i).map (·,false)) d w')->((i<n->C w')/\oU P md ops C n Q f (listed.setIfInBounds i true) d w'):=fun d w' m=>by
   refine⟨fun _=>m.1,?_⟩;have e:((c i).map (fun k=>(k,false))).map (·.1)=c i:=by rw[List.map_map];exact List.map_id _
   have h2:=sF (F:=b - (1+(c i).length)+F) (Q:=Q) B A v y _ _ d w' O m.1 H m.2 (fun a2 w2 J E inv2=>by
    rw[e] at inv2 ⊢;exact Au B A v y s g _ _ a2 w2 inv2 E G J)
   refine As ?_ h2;rw[List.length_map];omega
  unfold uS;rw[M] at h1 ⊢;unfold mv at h1;dsimp only[Option.getD_some] at h1 ⊢;split
  .rename_i q;rw[iP q] at h1;exact sV x h1
  .rename_i q;rw[iN q] at h1;exact x _ _ h1
def Tf(md:Region.Mode)(ops:Array Oper)(n:Nat)(H1:List (Nat×Bool))(g b:Nat)(a:Nat->List Nat)(H T:List (Nat×Bool)):Bool:=
 Region.noSelect ops&&decide (n<ops.size)&&Region.sinkB md ops n&&Region.chainB md ops n&&decide (H1.length+(b+(H.length+T.length))=ops.size)&&FH md ops n H1 (Array.replicate ops.size false)&&LW md ops n a (qI (Array.replicate ops.size false) ((H1.map (·.1))++(List.range ops.size).filter (fun i=> !(((H1.map (·.1))++(H.map (·.1))++(T.map (·.1))).contains i)))) g b (qI (Array.replicate ops.size false) (H1.map (·.1)))&&ER md ops n T H (qI (Array.replicate ops.size false) ((H1.map (·.1))++(List.range ops.size).filter (fun i=> !(((H1.map (·.1))++(H.map (·.1))++(T.map (·.1))).contains i))))
theorem LX{id:Nat}{a:Act}{w:World}{l:List Oper}(n:Nat)(H1:List (Nat×Bool))(g b:Nat)(q:Nat->List Nat)(H T:List (Nat×Bool))(C:World->Prop)(I:Act->World->Prop)(hm:P.follows .mixedOrders=true)(m:Tf .any l.toArray n H1 g b q H T=true)(hC:C w.drew)
 (h:cG P l.toArray C n (fun c w'=>C w'->JK P .any l.toArray C n q I g (qI (Array.replicate l.toArray.size false) (H1.map (·.1))) c w') H1 a w.drew)
 (s:∀c w',I c w'->C w'->cG P l.toArray C n (fun a w=>Q .normal a w) (H++T) c w'):(Code.region id l.toArray true).wp P Q a w:=by
 simp only[Tf,Bool.and_eq_true,decide_eq_true_eq] at m;obtain⟨⟨⟨⟨⟨⟨⟨k,f⟩,i⟩,e⟩,d⟩,v⟩,r⟩,y⟩:=m;have B:HeadInv .any l.toArray n (Array.replicate l.toArray.size false):=
  ⟨qs,fun j D _ d=>(by rw[getD_replicate_false] at d;cases d),fun t _ z=>getD_in (by simpa using z) (getD_replicate_false _ _)⟩
 have h1:=sF (md:= .any) (F:=b+(H.length+T.length)) (Q:=fun a w=>Q .normal a w) k i e f H1 _ a w.drew B hC v h (fun c w' x o A=>Au k i e f (fun a2 w2 h2 p inv2=>tW (md:= .any) k i e f H _ a2 w2 inv2 p y (s a2 w2 h2 p)) g b _ c w' A o r (x o));rw[d] at h1;exact wp_region_any hm (xS _ _ _ _ h1)
end
end Go.Proofs.YtbinmcabjnoliaaGreatDoor
