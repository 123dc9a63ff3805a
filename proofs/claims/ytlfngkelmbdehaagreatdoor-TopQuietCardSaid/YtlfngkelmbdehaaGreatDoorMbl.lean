/- Lemmas. -/
import Derived.Test.YtlfngkelmbdehaaGreatDoorMbd
import Derived.Test.YtlfngkelmbdehaaGreatDoorMbk
namespace Go.Proofs.YtlfngkelmbdehaaGreatDoor
open Go.RowKit
set_option linter.unusedVariables false
set_option linter.unusedSimpArgs false
set_option maxHeartbeats 16000000
open _root_.Go.Proofs.Tryz
set_option maxRecDepth 20000
def IY:Nat->Po->Prop
 |0,_=>False
 |n+1,p=>p.aCH.length<=16/\p.aCS.length<=16/\p.aCU.length<=8/\(∀r∈p.aCH,r.aCU.length<=8)/\∀k∈p.aCS,IY n k
def xV:Nat->Nat
 |0=>0
 |n+1=>136+16 * xV n
theorem LD{l:List Ob}(h:lA l=0):l.length<=8:=by
 unfold lA at h;by_cases h8:8<l.length
 .rw[iP h8] at h;exact absurd h qe
 .omega
theorem Eh{r:Ru}{s:WS}(h:(fQ r s).1=0):r.aCU.length<=8:=by
 unfold fQ at h;generalize gM r.id s=q at *;obtain⟨b,s1⟩:=q;simp only at h;by_cases h1:b=false
 .rw[iP h1] at h;simp at h
 rw[iN h1] at h;by_cases h2:64<s1.aCH+1
 .rw[iP h2] at h;simp at h
 rw[iN h2] at h;by_cases h3:eW r.aCO=0
 case neg=>rw[iP h3] at h;exact absurd h h3
 rw[iN (fun a=>a h3)] at h;by_cases h4:kZ r.cond=0
 case neg=>rw[iP h4] at h;exact absurd h h4
 rw[iN (fun a=>a h4)] at h;exact LD h
theorem Ei{p:Po}{s:WS}(h:(fG p s).1=0):p.aCU.length<=8:=by
 unfold fG at h;generalize gM p.id s=q at *;obtain⟨b,s1⟩:=q;simp only at h;by_cases h1:b=false\/p.alg<1\/6<p.alg
 .rw[iP h1] at h;simp at h
 rw[iN h1] at h;by_cases h2:(p.set=true/\p.aCH≠[])\/(p.set=false/\(0<p.aCS.length\/p.alg=4))
 .rw[iP h2] at h;simp at h
 rw[iN h2] at h;by_cases h3:eW p.aCO=0
 case neg=>rw[iP h3] at h;exact absurd h h3
 rw[iN (fun a=>a h3)] at h;by_cases h4:lA p.aCU=0
 case neg=>rw[iP h4] at h;exact absurd h h4
 exact LD h4
theorem IZ{α:Type}{f:α->WS->Int×WS}{Q:α->Prop}(b:∀x s,(f x s).1=0->Q x):∀(l:List α) (s:WS),(jB f l s).1=0->∀x∈l,Q x
 | [],_,_,x,a=>by cases a
 |y::l,s,h,x,a=>by
  unfold jB at h;by_cases h1:(f y s).1=0
  .rcases List.mem_cons.1 a with rfl|a
   .exact b _ _ h1
   .refine IZ b l (f y s).2 ?_ x a;simp only[h1,ne_eq,not_true,if_false] at h;exact h
  .simp only[ne_eq,h1,not_false_iff,if_true] at h
theorem Ag:∀(n:Nat) (p:Po) (s:WS),(eK n p s).1=0->IY n p
 |0,_,_,h=>by simp[eK] at h
 |n+1,p,s,h=>by
  unfold eK at h;by_cases h1:(fG p s).1=0
  case neg=>simp only[ne_eq,h1,not_false_iff,if_true] at h
  simp only[h1,ne_eq,not_true,if_false] at h;by_cases h2:(jB fQ p.aCH (fG p s).2).1=0
  case neg=>simp only[h2,not_false_iff,if_true] at h
  simp only[h2,not_true,if_false] at h;exact⟨(uY h1).1,(uY h1).2,Ei h1,IZ (fun x s a=>Eh a) _ _ h2,IZ (fun x s a=>Ag n x s a) _ _ h⟩
theorem LF{p:Po}(h:fJ p=0):IY 4 p:=Ag 4 p _ h
theorem LG(l:List Ob)(m:Mk):(gN l m).length<=l.length:=List.length_filter_le _ _
theorem Kd(g:List Gv)(r:Ru):(iA g r).2.length<=r.aCU.length:=by
 unfold iA DZ;simp only;split
 .exact Nat.zero_le _
 split
 .exact Nat.zero_le _
 .exact LG _ _
theorem PH(first:Bool)(m:Mk):∀l:List (Mk×List Ob),(gF first m l).length<=(l.map (·.2.length)).sum
 | []=>Nat.zero_le _
 |x::l=>by
  have:=PH first m l
  unfold gF;rw[List.map_cons,List.sum_cons];split
  .omega
  split
  .omega
  .rw[aL];omega
theorem Ke(alg:Int)(obls:List Ob)(t:Nat)(l:List (Mk×List Ob)):(rI alg obls t l).2.length<=(l.map (·.2.length)).sum+obls.length:=by
 unfold rI;simp only;split
 .exact Nat.zero_le _
 split
 .exact Nat.zero_le _
 split
 .exact Nat.zero_le _
 .have h1:=PH (decide (alg=3)) (BM alg (l.map (·.1))) l;have h2:=LG obls (BM alg (l.map (·.1)));rw[aL];omega
theorem VM{α:Type}(f:α->Nat)(b:Nat):∀l:List α,(∀x∈l,f x<=b)->(l.map f).sum<=l.length * b
 | [],_=>Nat.zero_le _
 |x::l,h=>by
  have h1:=VM f b l (fun y a=>h y (List.mem_cons_of_mem _ a));have h2:=h x (List.mem_cons_self ..);rw[List.map_cons,List.sum_cons,List.length_cons,Nat.add_mul];omega
theorem PI{n:Nat}{p:Po}(g:List Gv)(f:∀k∈p.aCS,(cY g n k).2.length<=xV n)(h:IY (n+1) p):((p.aCH.map (iA g)++p.aCS.map (cY g n)).map (·.2.length)).sum<=128+16 * xV n:=by
 obtain⟨h1,h2,_,h4,_⟩:=h;rw[List.map_append,List.sum_append,List.map_map,List.map_map];have a:=VM (fun r=>(iA g r).2.length) 8 p.aCH (fun r i=>lT (Kd g r) (h4 r i));have b:=VM (fun k=>(cY g n k).2.length) (xV n) p.aCS f;have c:p.aCS.length * xV n<=16 * xV n:=Nat.mul_le_mul_right _ h2;have d:((fun x:Mk×List Ob=>x.2.length) ∘ iA g)=(fun r=>(iA g r).2.length):=rfl;have e:((fun x:Mk×List Ob=>x.2.length) ∘ cY g n)=(fun k=>(cY g n k).2.length):=rfl;rw[d,e];omega
theorem xW(g:List Gv):∀(n:Nat) (p:Po),IY n p->(cY g n p).2.length<=xV n
 |0,_,h=>h.elim
 |n+1,p,h=>by
  have b:=PI g (fun k a=>xW g n k (h.2.2.2.2 k a)) h;unfold cY xV;simp only;split
  .exact Nat.zero_le _
  .have hj:=Ke p.alg p.aCU (xK g p.aCO) (p.aCH.map (iA g)++p.aCS.map (cY g n));have:=h.2.2.1;omega
theorem Vi:∀n,n<=4->xV n<=600000:=qe
theorem Pu{n:Nat}(b:n<=3){p:Po}(g:List Gv)(h:IY (n+1) p):((p.aCH.map (iA g)++p.aCS.map (cY g n)).map (·.2.length)).sum<=900000:=by
 have h1:=PI g (fun k a=>xW g n k (h.2.2.2.2 k a)) h;have h2:∀n,n<=3->128+16 * xV n<=900000:=qe;have:=h2 n b;omega
theorem GS(g:List Gv)(r:Ru):Cm.fJ (iA g r).1=true:=by
 unfold iA DZ;simp only;have hm:Cm.fJ (if r.aDf=true then ((0,4):Mk) else (4,0))=true:=by split<;>decide
 split
 .decide
 split
 .exact GM hm
 .exact hm
theorem YJ{n:Nat}{g:List Gv}{p:Po}(b:∀k,Cm.fJ (cY g n k).1=true):∀m∈(p.aCH.map (iA g)++p.aCS.map (cY g n)).map (·.1),Cm.fJ m=true:=by
 intro m hm;obtain⟨x,a,rfl⟩:=List.mem_map.1 hm
 rcases List.mem_append.1 a with a|a
 .obtain⟨r,_,rfl⟩:=List.mem_map.1 a;exact GS g r
 .obtain⟨k,_,rfl⟩:=List.mem_map.1 a;exact b k
theorem uM(g:List Gv):∀(n:Nat) (p:Po),Cm.fJ (cY g n p).1=true
 |0,_=>by unfold cY;decide
 |n+1,p=>by
  have hp:=PF p.alg _ (YJ (n:=n) (g:=g) (p:=p) (fun k=>uM g n k));unfold cY rI;simp only;split
  .rfl
  split
  .exact GM hp
  split
  .exact hp
  .exact hp
def Pw(n:Nat):Prop:=∀(m:Nat) (ok b:nP) (p:Po) (vt vr vk vo a:Value) (g:List Gv) (w:World),IY n p->fK m w b p vt vr vk vo->aH jM w ok a g->
 Calls prog 159 #[.agg #[.string p.id,.bool p.set,.int .i64 p.alg,vt,vr,vk,vo],a] w (mU (cY g n p) w)
theorem VN(n:Nat)(hn:n<=3)(IH:Pw n):Pw (n+1):=by
 intro lv ok b5 p vt vr vk vo vg g w bl hp h;obtain⟨ga,gc,rfl,_⟩:=h.slice;obtain⟨ta,tc,rfl,_⟩:=hp.2.2.1.slice;obtain⟨ra,rc,rfl,_⟩:=hp.2.2.2.1.slice;obtain⟨ka,kc,rfl,_⟩:=hp.2.2.2.2.1.slice;obtain⟨oa,oc,rfl,_⟩:=hp.2.2.2.2.2.slice;obtain⟨HP,HS,bt,F⟩:=dC hp h IH bl;obtain⟨o1,a6⟩:∃o1:Obj,o1=.cells (kF p ta tc ra rc ka kc oa oc) 38:=⟨_,rfl⟩;obtain⟨o2,a7⟩:∃o2:Obj,o2=.cells #[.complex .f64 0 0,.slice none 0 0] 135:=⟨_,rfl⟩;obtain⟨W0,ag⟩:=xE ((w.alloc o1).alloc o2);have P:=aA (ag▸KX w o1 o2:Kp w w.heap.size (w.heap.size+1) o1 o2 W0);rw[a6,a7] at ag;obtain⟨b0,bu,bw,aq⟩:=dC ag a6 a7 (ZJ _ p.aCO _ g W0 (hp.2.2.1.on aS P.o.1) (h.on bZ P.o.1));obtain⟨t,ht⟩:∃t,xK g p.aCO=t:=⟨_,rfl⟩;rw[ht] at aq;have bz:Hid (t<=2):=aA (ht▸Ae g p.aCO);have O:Hid (cY g (n+1) p=if t=0 then ((0,0),[]) else rI p.alg p.aCU t (p.aCH.map (iA g)++p.aCS.map (cY g n))):=aA (by unfold cY;simp only[ht]);obtain⟨J,hJ⟩:∃J,cY g (n+1) p=J:=⟨_,rfl⟩;rw[hJ] at O ⊢;have PB:=aA (by have h:=P.o.2.1;rw[bu.o] at h;exact h:W0.heap[w.heap.size]? =some (.cells (kF p ta tc ra rc ka kc oa oc) 38 (0,0)));have RB:=aA (by have h:=P.o.2.2;rw[bw.o] at h;exact h:W0.heap[w.heap.size+1]? =some (.cells #[.complex .f64 0 0,.slice none 0 0] 135 (0,0)));have b9:=uB;clear h hp ag a6 a7 bl IH hJ ht;go_enter func159,ntmps159;go_wp2_with fail;rw[<-b0.o];refine aq.o.mono ?_;rintro e j ⟨rfl,ae⟩;obtain⟨E,ab,ay⟩:=aY (P.o.on ae) (aE PB.o ae) (aE RB.o ae);clear aq ae;obtain⟨⟨v0,v1,v2,v3,v4,v5,v6⟩,q0,q1,q2,q3,q4,q5,q6⟩:=bI ab.o;have zv:=aD ab.o;by_cases af:t=0
 .have b3:((t:Int)==0)=true:=bQ.2 qo;have HJ2:=aA (by have h:=O.o;rwa [iP af] at h:J=((0,0),[]));obtain⟨⟨u0,u1⟩,f0,f1⟩:=fH ay.o;have zu:=aD ay.o;have HBW:=aA E.o.1;clear O af;exact QCG
 have b3:((t:Int)==0)=false:=bN.2 qo;have HJ2:=aA (by have h:=O.o;rwa [iN af] at h:J=rI p.alg p.aCU t (p.aCH.map (iA g)++p.aCS.map (cY g n)));clear O af;go_wp2;go_loopw [6,21] (fun v i wr=>∃(k:Nat) (H:oD) (I:Nat),k<=p.aCH.length/\i=.int .i64 k/\v=.slice H k I/\Hid (aM Jy 2 135 wr j.heap.size (fun b=>j.heap.size<=b) (.slice H k I) ((p.aCH.take k).map (iA g)))/\Hid (Below j.heap.size j wr)) (fun _ i _=>p.aCH.length - (intOf i).toNat)
 case atStart=>exact⟨0,none,0,qo,rfl,rfl,aA aM.nil,aA (Below.refl _ _)⟩
 case round=>
  obtain⟨k,H,I,hk,rfl,rfl,l,c⟩:=hrel;by_cases A:k<p.aCH.length
  .have a1:(k:Int)<(p.aCH.length:Int):=qo;obtain⟨b,off,rr,rfl,_,b4,⟨b7,ca,b6,rfl,Z⟩,W⟩:=aH.at bM ((HP.o.2.2.2.1.inb bM).on bM (aC E.o.1 c.o)) A qe;obtain⟨aj,ak,rfl,_⟩:=Z.2.1.slice;obtain⟨b1,b2,rfl,_⟩:=Z.2.2.1.slice;obtain⟨ah,ai,rfl,_⟩:=Z.2.2.2.slice;obtain⟨x0,x1,x2,x3,x4⟩:=JM W;rw[Nat.add_zero] at x0;have HTF:Hid ((p.aCH.take k).map (iA g)++[iA g p.aCH[k]]=(p.aCH.take (k+1)).map (iA g)):=aA (by rw[List.take_succ_eq_append_getElem A,List.map_append];rfl);obtain⟨Q,S,b8,R,T⟩:=gB (show ((p.aCH.take k).map (iA g)).length=k by rw[List.length_map,List.length_take];omega) (GS g p.aCH[k]) c.o.size (show p.aCH.length<=16 from F.o.1) Z;clear W Z;generalize p.aCH[k]=r at *;have z:=aA (aB wr (.cells #[.string r.id,.bool r.aDf,.slice aj r.aCO.length ak,.slice b1 r.cond.length b2,.slice ah r.aCU.length ai] 277));obtain⟨f,C,M⟩:=aY (Jw r _ _ _ _ g _ (T.o.aCM (aJ z.o)) (HS.o.on bZ (aC E.o.1 (aC c.o z.o)))) (l.o.on kI z.o) (aC c.o z.o);unfold mU at f;obtain⟨a,aa⟩:∃a,iA g r=a:=⟨_,rfl⟩;rw[aa] at f HTF S;clear l c T aa;go_wp2_with fail;refine f.o.mono ?_;rintro e d ⟨bq,rfl,x,s⟩;obtain⟨m,o,rfl,_⟩:=x.slice;have B:=qB M s;obtain⟨al,au,N,ao,D⟩:=gB (aC B.o (aB d (.cells #[.complex .f64 (Cm.qb a.1.1) (Cm.qb a.1.2),.slice m a.2.length o] 135))) (aK d (.cells #[.complex .f64 (Cm.qb a.1.1) (Cm.qb a.1.2),.slice m a.2.length o] 135) d.heap.size qs) (C.o.on kI (aC s (aB d (.cells #[.complex .f64 (Cm.qb a.1.1) (Cm.qb a.1.2),.slice m a.2.length o] 135)))) C.o.lt (x.inb aO);have aw:=aA (aH.more aO (aH.on aO D.o (aB d (.cells #[.complex .f64 (Cm.qb a.1.1) (Cm.qb a.1.2),.slice m a.2.length o] 135))) (ok':=fun b=>j.heap.size<=b/\b<(d.alloc (.cells #[.complex .f64 (Cm.qb a.1.1) (Cm.qb a.1.2),.slice m a.2.length o] 135)).heap.size/\some b≠(Value.slice H k I).ownBlock) (fun b q=>⟨lT M.o.size q.1,by have:=q.2;rw[World.size_alloc];omega,fun e=>absurd (ao.o b e.symm).2 (Nat.not_lt.2 q.1)⟩))
   clear f C D x s;go_wp2_with (at_builtin;refine cA (base:=j.heap.size) Yg kI rfl (.tmp 25) (.tmp 29) rfl _ ((p.aCH.take k).map (iA g)) rfl N.o d.heap.size 1 _ _ _ a rfl au.o ⟨_,rfl,S.o,aw.o⟩ (by rw[Q.o];have:=R.o;omega) qo (by have:=B.o.size;rw[World.size_alloc];omega) ?_;intro l' Y A' c2 w9 U X az;have HG9:=aA U;have HB9:=aA (N.o.below al.o X (lR _) (by have:=B.o.size;rw[World.size_alloc];omega));have HL9:=aA Y.o;clear U X az Y)
   have e9:l'.length=k+1:=by rw[HL9.o,aL,Q.o];rfl
   exact QBT
  .have a1:¬(k:Int)<(p.aCH.length:Int):=qo;obtain rfl:k=p.aCH.length:=qo;obtain⟨wo,rfl⟩:∃wo:World,wo=wr:=⟨_,rfl⟩;rw[List.take_of_length_le (lR _)] at l;obtain⟨y,ad⟩:∃y,p.aCH.map (iA g)=y:=⟨_,rfl⟩;have bb:Hid (y.length=p.aCH.length):=aA (by rw[<-ad,List.length_map]);rw[ad] at l HJ2;have bc:=aA ad;have a8:Hid (aM Jy 2 135 wo j.heap.size (fun b=>j.heap.size<=b) (.slice H p.aCH.length I) (y++(p.aCS.take 0).map (cY g n))):=aA (by have:=l.o;rw[List.take_zero,List.map_nil,List.append_nil];exact this);obtain⟨ax,R,an⟩:=aY (aE ab.o c.o) (show p.aCH.length<=16 from F.o.1) (show p.aCS.length<=16 from F.o.2.1);clear v0 v1 v2 v3 v4 v5 v6 q0 q1 q2 q3 q4 q5 q6 zv ad l A hk;obtain⟨⟨v0,v1,v2,v3,v4,v5,v6⟩,q0,q1,q2,q3,q4,q5,q6⟩:=bI ax.o;have zv:=aD ax.o;go_wp2;go_loopw [6,35] (fun v i wr=>∃(k L:Nat) (a2:oD) (c2:Nat),k<=p.aCS.length/\i=.int .i64 k/\v=.slice a2 L c2/\Hid (L=p.aCH.length+k)/\Hid (aM Jy 2 135 wr j.heap.size (fun b=>j.heap.size<=b) (.slice a2 L c2) (y++(p.aCS.take k).map (cY g n)))/\Hid (Below j.heap.size j wr)) (fun _ i _=>p.aCS.length - (intOf i).toNat)
   case atStart=>exact⟨0,p.aCH.length,H,I,qo,rfl,rfl,aA rfl,a8,c⟩
   case round=>
    clear a8 c ax;obtain⟨k,L,a2,c2,hk,rfl,rfl,ar,l,c⟩:=hrel;by_cases A:k<p.aCS.length
    .have a1:(k:Int)<(p.aCS.length:Int):=qo;obtain⟨b,off,rr,rfl,_,b4,bk,W⟩:=aH.at (bB lv) ((HP.o.2.2.2.2.1.inb (bB lv)).on (bB lv) (aC E.o.1 c.o)) A qe
     rcases lv with _|lv
     .exact bk.elim
     obtain⟨b7,cc,cb,b6,rfl,K⟩:=bk;obtain⟨aj,ak,rfl,_⟩:=K.2.2.1.slice;obtain⟨bo,bp,rfl,_⟩:=K.2.2.2.1.slice;obtain⟨bm,bn,rfl,_⟩:=K.2.2.2.2.1.slice;obtain⟨ah,ai,rfl,_⟩:=K.2.2.2.2.2.slice;obtain⟨x0,x1,x2,x3,x4,x5,x6⟩:=CA W;rw[Nat.add_zero] at x0;have HTF:Hid ((y++(p.aCS.take k).map (cY g n))++[cY g n p.aCS[k]]=y++(p.aCS.take (k+1)).map (cY g n)):=aA (by rw[List.take_succ_eq_append_getElem A,List.map_append,List.append_assoc];rfl);obtain⟨Q,S,bx⟩:=aY (show (y++(p.aCS.take k).map (cY g n)).length=L by rw[ar.o,aL,bb.o,List.length_map,List.length_take];omega) (uM g n p.aCS[k]) (F.o.2.2.2.2 p.aCS[k] (List.getElem_mem A));clear W;generalize p.aCS[k]=r at *;have T:Hid (fK lv wr (fun b=>b5 b/\b<w.heap.size) r (.slice aj r.aCO.length ak) (.slice bo r.aCH.length bp) (.slice bm r.aCS.length bn) (.slice ah r.aCU.length ai)):=aA K;clear K;have z:=aA (aB wr (.cells (kF r aj ak bo bp bm bn ah ai) 38));obtain⟨f,C,M⟩:=aY (bt.o lv _ _ r _ _ _ _ _ g _ bx.o (T.o.aCM (aJ z.o)) (HS.o.on bZ (aC E.o.1 (aC c.o z.o)))) (l.o.on kI z.o) (aC c.o z.o);unfold mU at f;obtain⟨a,aa⟩:∃a,cY g n r=a:=⟨_,rfl⟩;rw[aa] at f HTF S;clear l c T aa;go_wp2_with fail;refine f.o.mono ?_;rintro e d ⟨bq,rfl,x,s⟩;obtain⟨m,o,rfl,_⟩:=x.slice;have B:=qB M s;obtain⟨al,au,N,ao,D⟩:=gB (aC B.o (aB d (.cells #[.complex .f64 (Cm.qb a.1.1) (Cm.qb a.1.2),.slice m a.2.length o] 135))) (aK d (.cells #[.complex .f64 (Cm.qb a.1.1) (Cm.qb a.1.2),.slice m a.2.length o] 135) d.heap.size qs) (C.o.on kI (aC s (aB d (.cells #[.complex .f64 (Cm.qb a.1.1) (Cm.qb a.1.2),.slice m a.2.length o] 135)))) C.o.lt (x.inb aO)
     have aw:=aA (aH.more aO (aH.on aO D.o (aB d (.cells #[.complex .f64 (Cm.qb a.1.1) (Cm.qb a.1.2),.slice m a.2.length o] 135))) (ok':=fun b=>j.heap.size<=b/\b<(d.alloc (.cells #[.complex .f64 (Cm.qb a.1.1) (Cm.qb a.1.2),.slice m a.2.length o] 135)).heap.size/\some b≠(Value.slice a2 L c2).ownBlock) (fun b q=>⟨lT M.o.size q.1,by have:=q.2;rw[World.size_alloc];omega,fun e=>absurd (ao.o b e.symm).2 (Nat.not_lt.2 q.1)⟩));clear f C D x s;go_wp2_with (at_builtin;refine cA (base:=j.heap.size) Yg kI rfl (.tmp 39) (.tmp 43) rfl _ (y++(p.aCS.take k).map (cY g n)) rfl N.o d.heap.size 1 _ _ _ a rfl au.o ⟨_,rfl,S.o,aw.o⟩ (by rw[Q.o,ar.o];have:=R.o;have:=an.o;omega) qo (by have:=B.o.size;rw[World.size_alloc];omega) ?_;intro l' Y A' c3 w9 U X az;have HG9:=aA U;have HB9:=aA (N.o.below al.o X (lR _) (by have:=B.o.size;rw[World.size_alloc];omega));have HL9:=aA Y.o;clear U X az Y)
     have bs:Hid (l'.length=p.aCH.length+(k+1)):=aA (by rw[HL9.o,aL,Q.o,ar.o];rfl);go_roundw
     case rel=>exact⟨k+1,l'.length,A',c3,qo,by go_num,rfl,bs,aA (by have:=HG9.o;rw[HTF.o] at HL9;rw[<-HL9.o];exact this),HB9⟩
     case measure=>simp[intOf];omega
    .have a1:¬(k:Int)<(p.aCS.length:Int):=qo;obtain rfl:k=p.aCS.length:=qo;obtain⟨wp,rfl⟩:∃wp:World,wp=wr:=⟨_,rfl⟩;rw[List.take_of_length_le (lR _)] at l;obtain⟨G,V⟩:∃G,y++p.aCS.map (cY g n)=G:=⟨_,rfl⟩;have av:Hid (G.length=p.aCH.length+p.aCS.length):=aA (by rw[<-V,aL,bb.o,List.length_map]);have bd:Hid ((G.map (·.2.length)).sum<=900000):=aA (by rw[<-V,<-bc.o];exact Pu hn g F.o);have ba:Hid (J=rI p.alg p.aCU t G):=aA (by have h:=HJ2.o;rw[V] at h;exact h);rw[V] at l;have bf:=aA (l.o.sl (by rw[av.o];have:=R.o;have:=an.o;omega) (fun _=>True) (fun _ _ _=>trivial) (fun _ _ _=>trivial) kI);have HBW:=aA (aC E.o.1 c.o);have f:=aA (Kc p _ _ _ _ t bz.o _ G wp (fK.aCM (fK.inb HP.o) (aJ HBW.o)) bf.o bd.o (qA F.o.2.2.1) (by rw[av.o];have:=R.o;have:=an.o;omega));rw[<-ba.o] at f;have bg:=qK ab c.o;have bh:=qK ay c.o;unfold mU at f;clear V l HJ2 ba bc bd av bf c A hk v0 v1 v2 v3 v4 v5 v6 q0 q1 q2 q3 q4 q5 q6 zv;obtain⟨⟨v0,v1,v2,v3,v4,v5,v6⟩,q0,q1,q2,q3,q4,q5,q6⟩:=bI bg.o;have zv:=aD bg.o;go_wp2_with fail;refine f.o.mono ?_;rintro e d ⟨bq,rfl,x,s⟩;obtain⟨m,o,rfl,_⟩:=x.slice;obtain⟨bj,D,br,be⟩:=dC (aE bh.o s) x (aC HBW.o s) (aD bh.o);clear v0 v1 v2 v3 v4 v5 v6 q0 q1 q2 q3 q4 q5 q6 zv x s f;obtain⟨⟨u0,u1⟩,f0,f1⟩:=fH bj.o;have zu:=aD bj.o;go_wp2;refine bR (.agg #[.complex .f64 (Cm.qb J.1.1) (Cm.qb J.1.2),.slice m J.2.length o]) ?_;exact⟨_,rfl,aH.more aO (aH.aCM aO D.o (((aI (g:=w.heap.size+1) (i:=0) _).trans (aI (g:=w.heap.size+1) (i:=1) _)).mono fun k hk q=>by have h1:wp.heap.size<=k:=q;have h2:=be.o;show k≠w.heap.size+1;omega)) (fun b q=>by have h1:wp.heap.size<=b:=q;have h2:=be.o;show w.heap.size<=b;omega),nV br.o (Nat.le_succ _)⟩
theorem GU:∀n,n<=4->Pw n
 |0,_=>fun _ _ _ _ _ _ _ _ _ _ _ h=>h.elim
 |n+1,h=>VN n qo (GU n qo)
def LH(r:(Mk×List Ob)×Int)(w:World)(e:Ending)(w':World):Prop:=∃vo,e=.returned (.tuple #[.agg #[.complex .f64 (Cm.qb r.1.1.1) (Cm.qb r.1.1.2),vo],.int .i64 r.2])/\aH jT w' (fun b=>w.heap.size<=b) vo r.1.2/\Below w.heap.size w w'
theorem Ah{r:(Mk×List Ob)×Int}{a b:Nat}{i:Int}{w w':World}(c:r=(((a,b),[]),i))(h:Below w.heap.size w w'){x y:Nat}(d:Cm.qb a=x)(e:Cm.qb b=y):LH r w (.returned (.tuple #[.agg #[.complex .f64 x y,.slice none 0 0],.int .i64 i])) w':=by
 subst c d e;exact⟨_,rfl,aH.nil,h⟩
theorem Kf{lv:Nat}{ok aa:nP}(p:Po)(vt vr vk vo R:Value)(g:List Gv)(w:World)(hp:fK lv w aa p vt vr vk vo)(h:aH jM w ok R g):
 Calls prog 102 #[.agg #[.string p.id,.bool p.set,.int .i64 p.alg,vt,vr,vk,vo],R] w (LH (rJ g p) w):=by
 obtain⟨ga,gc,rfl,_⟩:=h.slice;obtain⟨P,Q,rfl,_⟩:=hp.2.2.1.slice;obtain⟨ra,rc,rfl,_⟩:=hp.2.2.2.1.slice;obtain⟨L,M,rfl,_⟩:=hp.2.2.2.2.1.slice;obtain⟨N,O,rfl,_⟩:=hp.2.2.2.2.2.slice;have V:=aA hp;have X:=aA h;obtain⟨d,y⟩:∃d:Obj,d=.cells (kF p P Q ra rc L M N O) 38:=⟨_,rfl⟩;obtain⟨f,z⟩:∃f:Obj,f=.cells #[.complex .f64 0 0,.slice none 0 0] 135:=⟨_,rfl⟩;obtain⟨W0,r⟩:=xE ((w.alloc d).alloc f);have m:=aA (r▸KX w d f:Kp w w.heap.size (w.heap.size+1) d f W0);rw[y,z] at r;obtain⟨Z,T,U,s⟩:=dC r y z (rW p _ _ _ _ W0 (fK.aCM hp.inb (aJ m.o.1)));obtain⟨t,q⟩:∃t,fJ p=t:=⟨_,rfl⟩;rw[q] at s;have c:Hid (rJ g p=if t≠0 then (((0,0),[]),1) else (cY g 4 p,0)):=aA (by unfold rJ;rw[q]);obtain⟨J,K⟩:∃J,rJ g p=J:=⟨_,rfl⟩;rw[K] at c ⊢;obtain⟨W,PB,RB⟩:=aY q (by have h:=m.o.2.1;rw[T.o] at h;exact h:W0.heap[w.heap.size]? =some (.cells (kF p P Q ra rc L M N O) 38 (0,0))) (by have h:=m.o.2.2;rw[U.o] at h;exact h:W0.heap[w.heap.size+1]? =some (.cells #[.complex .f64 0 0,.slice none 0 0] 135 (0,0)));have af:=uB;clear h hp r y z K q;go_enter func102,ntmps102;go_wp2_with fail;rw[<-Z.o];refine s.o.mono ?_;rintro e C ⟨rfl,o⟩;obtain⟨E,G,n⟩:=aY (m.o.on o) (aE PB.o o) (aE RB.o o);clear s o;obtain⟨⟨v0,v1,v2,v3,v4,v5,v6⟩,q0,q1,q2,q3,q4,q5,q6⟩:=bI G.o;have zv:=aD G.o;by_cases B:t=0
 .subst B;have l:=aA (by have h:=c.o;rwa [iN qo] at h:J=(cY g 4 p,0));have a:=aA E.o.1;have j:=aA (GU 4 (lR _) lv _ _ p _ _ _ _ _ g C (LF W.o) (fK.aCM (fK.inb V.o) (aJ a.o)) (X.o.on bZ a.o));obtain⟨D,I⟩:∃D,cY g 4 p=D:=⟨_,rfl⟩;rw[I] at j l;unfold mU at j;clear c I;go_wp2_with fail;refine j.o.mono ?_;rintro e w3 ⟨ag,rfl,A,x⟩;obtain⟨ab,ad,rfl,_⟩:=A.slice;obtain⟨H,Y,S,F⟩:=dC (aE n.o x) A (aC a.o x) (aD n.o);clear v0 v1 v2 v3 v4 v5 v6 q0 q1 q2 q3 q4 q5 q6 zv A x j;obtain⟨⟨u0,u1⟩,f0,f1⟩:=fH H.o;have zu:=aD H.o;go_wp2;refine bR (.tuple #[.agg #[.complex .f64 (Cm.qb D.1.1) (Cm.qb D.1.2),.slice ab D.2.length ad],.int .i64 0]) ?_;rw[l.o];exact⟨_,rfl,aH.more aO (aH.aCM aO Y.o (((aI (g:=w.heap.size+1) (i:=0) _).trans (aI (g:=w.heap.size+1) (i:=1) _)).mono fun k hk v=>by have h1:C.heap.size<=k:=v;have h2:=F.o;show k≠w.heap.size+1;omega)) (fun b v=>by have h1:C.heap.size<=b:=v;have h2:=F.o;show w.heap.size<=b;omega),nV S.o (Nat.le_succ _)⟩
 .have l:=aA (by have h:=c.o;rwa [iP B] at h:J=(((0,0),[]),1));have ae:(t==0)=false:=bN.2 B;obtain⟨⟨u0,u1⟩,f0,f1⟩:=fH n.o;have zu:=aD n.o;have a:=aA E.o.1;clear c;go_wp2;refine bR (.tuple #[.agg #[.complex .f64 0 0,.slice none 0 0],.int .i64 1]) ?_;exact Ah l.o (nV a.o (Nat.le_succ _)) rfl rfl
def sA(m:Ma):Bool:=decide (m.op=1)&& !m.aC3.aDc
theorem Kg{t:Ta}{k:Nat}(a:k<t.length)(h:t[k].length≠1):pR (t.drop k)=pR (t.drop (k+1)):=by
 rw[List.drop_eq_getElem_cons a];unfold pR;rw[List.filter_cons_of_neg (by simpa using h)]
theorem Kh{t:Ta}{k:Nat}(a:k<t.length)(h:t[k].length=1):pR (t.drop k)=match ((t[k].head?).getD []).find? sA with |some m=>some m|none=>pR (t.drop (k+1)):=by
 rw[List.drop_eq_getElem_cons a];unfold pR;rw[List.filter_cons_of_pos (by simpa using h),List.findSome?_cons];have e:(fun m:Ma=>decide (m.op=1)&& !m.aC3.aDc)=sA:=rfl;rw[e]
 cases ((t[k].head?).getD []).find? sA<;>rfl
theorem Ki{l:List Ma}{j:Nat}(hj:j<l.length):(l.drop j).find? sA=if sA l[j]=true then some l[j] else (l.drop (j+1)).find? sA:=by
 rw[List.drop_eq_getElem_cons hj,List.find?_cons]
 cases sA l[j]<;>rfl
theorem Kj(g:List Gv)(k:Po):nS g k=match pR k.aCO with |none=>true |some m=>decide (oL g m≠0):=rfl
theorem QCT{p:Prop}(h:p:=by
 go_wp2;go_roundw
 case rel=>exact⟨q+1,qo,by go_num,HE,HB3⟩
 case measure=>simp[intOf];omega):p:=h
def EW(o:Option Ma)(w:World)(e:Ending)(w':World):Prop:=∃m:Ma,e=.returned (.tuple #[kL m,.bool o.isSome])/\(∀x,o=some x->m=x/\tP x)/\Below w.heap.size w w'
theorem Vj{m:Ma}{o:Option Ma}(h:some m=o){w w':World}(hm:tP m)(b:Below w.heap.size w w'):EW o w (.returned (.tuple #[.agg #[.int .i64 m.aC3.cat,.string m.aC3.name,.bool m.aC3.aDc,.int .i64 m.op,.int .i64 m.val.1,.int .i64 m.val.2.1,.string m.val.2.2],.bool true])) w':=by
 subst h;exact⟨m,rfl,fun x a=>by injection a with a;subst a;exact⟨rfl,hm⟩,b⟩
theorem Px{o:Option Ma}(h:none=o){w w':World}(a:Below w.heap.size w w'):EW o w (.returned (.tuple #[.agg #[.int .i64 0,.string ⟨#[]⟩,.bool false,.int .i64 0,.int .i64 0,.int .i64 0,.string ⟨#[]⟩],.bool false])) w':=by
 subst h;exact⟨⟨⟨0,⟨#[]⟩,false⟩,0,0,0,⟨#[]⟩⟩,rfl,(fun x b=>by cases b),a⟩
def Sq(F K:Option Ma):Option Ma:=match F with |some m=>some m|none=>K
theorem Kk{W w:World}{g:Nat}{a b c d e f h:Value}(j:Below W.heap.size W w)(i:W.heap.size<=g):Below W.heap.size W (((((((w.setCell ⟨g,0,none⟩ a).setCell ⟨g,1,none⟩ b).setCell ⟨g,2,none⟩ c).setCell ⟨g,3,none⟩ d).setCell ⟨g,4,none⟩ e).setCell ⟨g,5,none⟩ f).setCell ⟨g,6,none⟩ h):=
 ((((((j.setCell i _).setCell i _).setCell i _).setCell i _).setCell i _).setCell i _).setCell i _
theorem Vk{ok:nP}(vt:Value)(t:Ta)(w:World)(h:nX w ok vt t):Calls prog 201 #[vt] w (EW (pR t) w):=by
 obtain⟨ta,tc,rfl,_⟩:=h.slice;obtain⟨J,R⟩:∃J,pR t=J:=⟨_,rfl⟩;have Y:Hid (pR (t.drop 0)=J):=aA (by rw[List.drop_zero];exact R);rw[R];obtain⟨W0,z⟩:=xE (w.alloc (.cells ZM 288));have W:Hid (Below w.heap.size w W0):=aA (by rw[z];exact aB _ _);have PB:Hid (W0.heap[w.heap.size]? =some (.cells ZM 288 (0,0))):=aA (by rw[z];exact aK _ _ _ rfl);have HS:Hid (nX W0 ok (.slice ta t.length tc) t):=aA (aH.on aS h (by rw[z];exact aB _ _));have ae:=aA z;clear h R z;go_enter func201,ntmps201;go_wp2;rw[<-ae.o];go_loopw [5,7,10] (fun _ _ i wr=>∃k:Nat,k<=t.length/\i=.int .i64 k/\Hid (pR (t.drop k)=J)/\Hid (Below W0.heap.size W0 wr)) (fun _ _ i _=>t.length - (intOf i).toNat)
 case atStart=>exact⟨0,Nat.zero_le _,rfl,Y,aA (Below.refl _ _)⟩
 case round=>
  clear Y;obtain⟨x,rfl⟩:∃x:World,x=wr:=⟨_,rfl⟩;obtain⟨k,hk,rfl,v,s⟩:=hrel;have P:=qK PB s.o;by_cases S:k<t.length
  .have af:(k:Int)<(t.length:Int):=qo;obtain⟨b,off,r,rfl,_,ak,⟨vx,rfl,K⟩,f⟩:=aH.at aS (HS.o.on aS s.o) S qe;have B:=f 0 _ rfl;rw[Nat.add_zero,Nat.mul_one] at B;by_cases H:t[k].length=1
   .have d:=aA ((Kh S H).symm.trans v.o);have O:=aA K;clear f v K;generalize t[k]=l at *;obtain⟨L,rfl⟩:=List.length_eq_one_iff.1 H;obtain⟨U,V,rfl⟩:∃U V,vx=.slice U 1 V:=by obtain⟨a,c,e,_⟩:=O.o.slice;exact⟨a,c,e⟩
    obtain⟨b2,ai,r2,rfl,_,al,⟨vy,rfl,T⟩,f⟩:=aH.at dM (k:=0) O.o qs qe;obtain⟨E,G,ah,aj⟩:∃E G,vy=.slice E L.length G/\L.length<=1000000:=by obtain⟨a,c,e,h⟩:=T.slice;exact⟨a,c,e,h⟩
    subst ah;have y0:x.cell? ⟨b2,ai,none⟩=some (.slice E L.length G):=by have:=f 0 _ rfl;simp only[Nat.add_zero,Nat.zero_mul] at this;exact this
    have HL:Hid (aH rK x ok (.slice E L.length G) L):=aA T;obtain⟨F,Q⟩:∃F,L.find? sA=F:=⟨_,rfl⟩;have X:Hid ((L.drop 0).find? sA=F):=aA (by rw[List.drop_zero];exact Q);have C:Hid (Sq F (pR (t.drop (k+1)))=J):=aA (by have h:Sq (L.find? sA) (pR (t.drop (k+1)))=J:=d.o;rw[Q] at h;exact h);clear f d O T H Q;go_wp2;clear B y0;go_loopw [7,21] (fun _ i wr=>∃q:Nat,q<=L.length/\i=.int .i64 q/\Hid ((L.drop q).find? sA=F)/\Hid (Below x.heap.size x wr)) (fun _ i _=>L.length - (intOf i).toNat)
    case atStart=>exact⟨0,Nat.zero_le _,rfl,X,aA (Below.refl _ _)⟩
    case round=>
     clear X;obtain⟨q,hq,rfl,D,y⟩:=hrel;by_cases ab:q<L.length
     .have ag:(q:Int)<(L.length:Int):=qo;obtain⟨b3,ar,r3,rfl,_,an,⟨rfl,aa⟩,f⟩:=aH.at eN (HL.o.on eN y.o) ab qe;obtain⟨B,x1,x2,x3,x4,x5,x6⟩:=CA f;rw[Nat.add_zero] at B;have d:=aA ((Ki ab).symm.trans D.o);have ad:=aA aa;clear f D aa;generalize L[q]=m at *;obtain⟨⟨g,j,M⟩,A,n,o,p⟩:=m;dsimp only at B x1 x2 x3 x4 x5 x6;obtain⟨Z,N,HB3⟩:=aY (aE (aE P.o y.o) (aB wr (.cells #[.int .i64 g,.string j,.bool M,.int .i64 A,.int .i64 n,.int .i64 o,.string p] 288))) (aC (aC (aC W.o s.o) y.o) (aB wr (.cells #[.int .i64 g,.string j,.bool M,.int .i64 A,.int .i64 n,.int .i64 o,.string p] 288))) (aC y.o (aB wr (.cells #[.int .i64 g,.string j,.bool M,.int .i64 A,.int .i64 n,.int .i64 o,.string p] 288)));by_cases I:A=1
      .subst I
       cases M
       .have HE:Hid (some (⟨⟨g,j,false⟩,1,n,o,p⟩:Ma)=J):=aA (by
         have h1:F=some ⟨⟨g,j,false⟩,1,n,o,p⟩:=by rw[<-d.o];rfl
         have:=C.o;rw[h1] at this;exact this)
        clear d C;obtain⟨⟨s0,s1,s2,s3,s4,s5,s6⟩,f0,f1,f2,f3,f4,f5,f6⟩:=bI Z.o;have zs:=aD Z.o;go_wp2;refine bR (.tuple #[.agg #[.int .i64 g,.string j,.bool false,.int .i64 1,.int .i64 n,.int .i64 o,.string p],.bool true]) ?_;exact Vj (m:=⟨⟨g,j,false⟩,1,n,o,p⟩) HE.o ad.o (Kk N.o (lR _))
       .have HE:Hid ((L.drop (q+1)).find? sA=F):=aA d.o;clear d;exact QCT
      .have aq:(A==1)=false:=bN.2 I;have HE:Hid ((L.drop (q+1)).find? sA=F):=aA (by have:=d.o;rwa [iN (by unfold sA;simp[I])] at this);clear d I;exact QCT
     .have ag:¬(q:Int)<(L.length:Int):=qo;obtain rfl:q=L.length:=qo;have HE:Hid (pR (t.drop (k+1))=J):=aA (by
       have h1:F=none:=by rw[<-D.o,List.drop_length];rfl
       have:=C.o;rw[h1] at this;exact this)
      clear D C;go_wp2;go_roundw
      case rel=>exact⟨k+1,qo,by go_num,HE,aA (aC s.o y.o)⟩
      case measure=>simp[intOf];omega
   .obtain⟨U,V,rfl,_⟩:=K.slice;have HE:=aA ((Kg S H).symm.trans v.o);clear f v K;generalize t[k]=l at *;have ao:¬(l.length:Int)=1:=qo;go_wp2;go_roundw
    case rel=>exact⟨k+1,qo,by go_num,HE,s⟩
    case measure=>simp[intOf];omega
  .have af:¬(k:Int)<(t.length:Int):=qo;obtain rfl:k=t.length:=qo;have HE:Hid (none=J):=aA (by rw[<-v.o,List.drop_length];rfl);have N:=qB W s.o;clear v;obtain⟨⟨s0,s1,s2,s3,s4,s5,s6⟩,f0,f1,f2,f3,f4,f5,f6⟩:=bI P.o;have zs:=aD P.o;go_wp2;refine bR (.tuple #[.agg #[.int .i64 0,.string ⟨#[]⟩,.bool false,.int .i64 0,.int .i64 0,.int .i64 0,.string ⟨#[]⟩],.bool false]) ?_;exact Px HE.o (Kk N.o (lR _))
end Go.Proofs.YtlfngkelmbdehaaGreatDoor
