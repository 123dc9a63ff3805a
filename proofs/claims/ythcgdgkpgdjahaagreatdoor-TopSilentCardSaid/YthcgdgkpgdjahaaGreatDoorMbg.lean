/- Lemmas. -/
import Derived.Test.YthcgdgkpgdjahaaGreatDoorMbf
import Derived.Test.YthcgdgkpgdjahaaGreatDoorMbc
namespace Go.Proofs.YthcgdgkpgdjahaaGreatDoor
open Go.RowKit
set_option linter.unusedVariables false
set_option linter.unusedSimpArgs false
set_option maxHeartbeats 16000000
open _root_.Go.Proofs.Tryz
set_option maxRecDepth 20000
theorem QCN{p:Prop}(h:p:=by
 exact⟨0,none,0,qo,rfl,rfl,aA (fun i _ h=>absurd h qo),aA aM.nil,aA (Below.refl _ _)⟩):p:=h
theorem QBb{p:Prop}(h:p:=by
 try clear NB0 NB1 NB2 NB3 NB4 NB5 NB6 zNB
 replace NB:=qK NB hb_;obtain⟨⟨NB0,NB1,NB2,NB3,NB4,NB5,NB6⟩,_⟩:=bI NB.o;have zNB:=aD NB.o
 try clear RB0 RB1 RB2 RB3 RB4 zRB
 replace RB:=qK RB hb_;obtain⟨⟨RB0,RB1,RB2,RB3,RB4⟩,_⟩:=dM RB.o;have zRB:=aD RB.o;clear hb_ HT;go_wp2;refine bR (.agg #[.slice none 0 0,.int .i64 1,.int .i64 n1,.string ByteArray.empty,.int .i64 0]) ?_;exact mH rfl HG1.o oT (uP HB3.o (Nat.le_succ _))):p:=h
theorem QAC{p:Prop}(h:p:=by
 obtain⟨⟨u0,u1,u2,u3,u4⟩,_⟩:=dM RB2.o;obtain⟨⟨v0,v1,v2,v3,v4,v5,v6⟩,_⟩:=bI NB2.o;have zu:=aD RB2.o;have HF:=aA (Ly n.op _ (l.map (·.val)) wr (HG9.o.sl (by rw[List.length_map];omega) (fun _=>True) (fun _ _ _=>trivial) (fun _ _ _=>trivial) bG) (by rw[List.length_map];exact hca));have HV2:=aA (Gc (g:=g) hca HEA.o HQ9.o);have HGC:=aA (Mb n.op (l.map (·.val)));unfold eE dC at HF;generalize vQ n.op (l.map (·.val))=r at *;obtain⟨⟨r0,r1,r2⟩,en⟩:=r;simp only at HF;clear hca;go_wp2_with fail;refine HF.o.mono ?_;rintro e w2 ⟨rfl,hb_⟩;have HB2:=qB HBT hb_;clear u0 u1 u2 u3 u4 v0 v1 v2 v3 v4 v5 v6 zu;replace RB2:=qK RB2 hb_;obtain⟨⟨RB20,RB21,RB22,RB23,RB24⟩,_⟩:=dM RB2.o;have zRB2:=aD RB2.o;clear hb_ HF;go_wp2;refine bR (.agg #[.slice none 0 0,.int .i64 r0,.int .i64 r1,.string r2,.int .i64 en]) ?_;rw[HRES.o,HV2.o];exact mH rfl HGC.o.1 HGC.o.2 (aC (uP HB2.o (Nat.le_succ _)) (aB _ _))):p:=h
theorem QAf{p:Prop}(h:p:=by
 have hk1:(k:Int)<(l.length:Int):=qo;obtain⟨ba,bc,x0,x1,x2,x3,x4,_,hbl⟩:=uA (HL.o.on iJ HBT.o) hlt;have hgd:=Me HL.o hlt;have HQ2:=aA (fun h1=>HER.o k hlt HQ.o h1);have HQ3:Hid (l[k].err=0->∀i (hi:i<l.length),i<k+1->l[i].err=0):=aA (fun h1 i hi h=>by
  rcases Nat.lt_or_ge i k with h2|h2
  .exact HQ.o i hi h2
  .obtain rfl:i=k:=qo;exact h1)
 have HHV:=aA (Rt l k hlt);have HGD:=aA hgd;clear hgd HQ;generalize hx:l[k]=x at *;clear hx;by_cases he:x.err=0
 .have d:(x.err != 0)=false:=by rw[he];rfl
  have HQ4:=aA (HQ3.o he);have HB2:=qB HB (aB wr (.cells #[.slice ba x.bag.length bc,.int .i64 x.val.1,.int .i64 x.val.2.1,.string x.val.2.2,.int .i64 x.err] 352));have HB3:=qB HB2 (aB _ (.cells #[.int .i64 x.val.1,.int .i64 x.val.2.1,.string x.val.2.2] 30));have HNE:=aA (aK (wr.alloc (.cells #[.slice ba x.bag.length bc,.int .i64 x.val.1,.int .i64 x.val.2.1,.string x.val.2.2,.int .i64 x.err] 352)) (.cells #[.int .i64 x.val.1,.int .i64 x.val.2.1,.string x.val.2.2] 30) (wr.heap.size+1) qs);have HG2:=aA (HG.o.on bG (aC (aB wr (.cells #[.slice ba x.bag.length bc,.int .i64 x.val.1,.int .i64 x.val.2.1,.string x.val.2.2,.int .i64 x.err] 352)) (aB _ (.cells #[.int .i64 x.val.1,.int .i64 x.val.2.1,.string x.val.2.2] 30))));have HLK:=aA (show ((l.take k).map (·.val)).length=k by rw[List.length_map,List.length_take];omega);have HSZ:=aA HB.o.size;have HLL:=aA hll;clear he HQ2 HQ3 HG;go_wp2_with (at_builtin;refine cC (base:=W.heap.size) Zu bG rfl (.tmp 67) (.tmp 70) rfl _ ((l.take k).map (·.val)) rfl HG2.o (wr.heap.size+1) 1 _ _ _ x.val rfl HNE.o ⟨rfl,HGD.o.1⟩ (by rw[HLK.o];have:=HLL.o;omega) qo (by have:=HSZ.o;simp only[World.size_alloc];omega) ?_;intro l' hl' A' c2 w9 hG hgr hat';have HG9:=aA hG;have HB9:=aA (HG2.o.below HB3.o hgr (lR _) (by have:=HSZ.o;simp only[World.size_alloc];omega));have HL9:=aA hl'.o;clear hG hgr hat' hl')
  have e9:l'.length=k+1:=by rw[HL9.o,aL,HLK.o];rfl
  rw[e9] at HG9 ⊢;go_roundw
  case rel=>exact⟨k+1,A',c2,qo,by go_num,rfl,HQ4,aA (by have:=HG9.o;rw[HL9.o,HHV.o] at this;exact this),HB9⟩
  case measure=>simp[intOf];omega
 .have d:(x.err != 0)=true:=bne_iff_ne.2 he;have HX:=aA (HQ2.o he);have RB2:=qK RB HB.o;obtain⟨⟨u0,u1,u2,u3,u4⟩,_⟩:=dM RB2.o;have zu:=aD RB2.o;clear he HQ2 HQ3;go_wp2;refine bR (.agg #[.slice none 0 0,.int .i64 0,.int .i64 0,.string ⟨#[]⟩,.int .i64 x.err]) ?_;rw[HX.o];exact mH rfl kK HGD.o.2.1 (aC (uP HBT.o (Nat.le_succ _)) (aB _ _))):p:=h
theorem Mf{ok ok':nP}(n:No)(V:oY n)(G:Value)(l:List It)(F:Value)(g:List Gv)(w:World)(f:aH sX w ok' G l)(h:aH jW w ok F g)(he:xV n l):Calls prog 270 #[jS n,G,F] w (pN (iQ g n l) w):=by
 obtain⟨Z,gc,rfl,_⟩:=h.slice;obtain⟨la,lc,rfl,aa⟩:=f.slice;have t:=aA (aC (aB w (.cells (iS n) 292)) (aB _ (.cells nO 352)));have NB:=aA (aE (aK w (.cells (iS n) 292) _ rfl) (aB (w.alloc (.cells (iS n) 292)) (.cells nO 352)));have RB:Hid (((w.alloc (.cells (iS n) 292)).alloc (.cells nO 352)).heap[w.heap.size+1]? =some (.cells nO 352 (0,0))):=aA (aK (w.alloc (.cells (iS n) 292)) (.cells nO 352) _ qs);have z:=aA (ZV (g:=g) he);obtain⟨C,x,y,rfl,d⟩:=he;have v:=aA f;obtain⟨b,off,rfl⟩:=BG f qs;obtain⟨n1,i⟩:∃n1:Int,(if decide (n.op=13)=true then (1:Int) else 0)=n1:=⟨_,rfl⟩;have HT:=aA (fun w'=>IN (decide (n.op=13)) n1 i w');have HG1:Hid (cS (1,n1,ByteArray.empty)):=aA (by rw[<-i];exact oB (decide (n.op=13)));have A:Hid (iQ g n [x,y]=jP (1,n1,ByteArray.empty) 0):=aA (by rw[z.o];unfold cI;rw[i]);rw[A.o];obtain⟨m,hm⟩:=xE (n.op - 12);rw[<-hm] at d;have em:(m==1)=decide (n.op=13):=by rw[Bool.eq_iff_iff];simp;omega
 have U:IntKind.i64.wrap (n.op - 12)=m:=by rw[hm];exact IntWalk.i64_in _ qo
 have d1:(n.op==1)=false:=bN.2 qo;have d2:(n.op==2)=false:=bN.2 qo;have Y:wrap64 (n.op - 12)=m:=by rw[<-IntWalk.i64_left];exact U
 have T:Hid (((n.op==12)=true)\/((n.op==12)=false/\(n.op==13)=true)):=aA (by
  rcases C with h|h
  .exact .inl (bQ.2 h)
  .exact .inr ⟨bN.2 qo,bQ.2 h⟩)
 obtain⟨tb,E⟩:∃tb,decide (n.op=13)=tb:=⟨_,rfl⟩;rw[E] at HT em;unfold aP at HT;have a:=aA (fun o r w'=>tO o x.bag.length r x.bag x.val x.err m w');have c:=aA (fun o r w'=>tO o y.bag.length r y.bag y.val y.err m w');unfold aP at a c;have ex:It.is ⟨x.bag,x.val,x.err⟩ m=x.is m:=rfl;have B:It.is ⟨y.bag,y.val,y.err⟩ m=y.is m:=rfl;rw[ex] at a;rw[B] at c;unfold jS;obtain⟨p,hp⟩:∃p,x.is m=p:=⟨_,rfl⟩;obtain⟨q,D⟩:∃q,y.is m=q:=⟨_,rfl⟩;rw[hp] at a d;rw[D] at c d;have S:=aA d;clear f h V C hm d ex B hp D E i z A
 rcases T.o with d3|⟨d3,d4⟩
 all_goals
  obtain⟨xa,xc,H,I,J,K,L,_,s⟩:=uA (k:=0) (v.o.on iJ t.o) qs;simp only[Nat.zero_mul,Nat.add_zero,List.getElem_cons_zero] at H I J K L;go_enter func270,ntmps270;go_wp2_with fail;refine(a.o _ _ _).mono ?_;rintro e w1 ⟨rfl,hb_⟩;have j:=qB t hb_;replace NB:=qK NB hb_;obtain⟨⟨NB0,NB1,NB2,NB3,NB4,NB5,NB6⟩,_⟩:=bI NB.o;have zNB:=aD NB.o;replace RB:=qK RB hb_;obtain⟨⟨RB0,RB1,RB2,RB3,RB4⟩,_⟩:=dM RB.o;have zRB:=aD RB.o;clear hb_ a H I J K L s
  cases p
  .have W:q=true:=by rcases S.o with h|h;cases h;exact h
   subst W;obtain⟨ya,yc,M,N,O,P,Q,_,s⟩:=uA (k:=1) (v.o.on iJ j.o) qs;simp only[Nat.one_mul,List.getElem_cons_succ,List.getElem_cons_zero] at M N O P Q;go_wp2_with fail;refine(c.o _ _ _).mono ?_;rintro e w2 ⟨rfl,hb_⟩;have R:=qB j hb_
   try clear NB0 NB1 NB2 NB3 NB4 NB5 NB6 zNB
   replace NB:=qK NB hb_;obtain⟨⟨NB0,NB1,NB2,NB3,NB4,NB5,NB6⟩,_⟩:=bI NB.o;have zNB:=aD NB.o
   try clear RB0 RB1 RB2 RB3 RB4 zRB
   replace RB:=qK RB hb_;obtain⟨⟨RB0,RB1,RB2,RB3,RB4⟩,_⟩:=dM RB.o;have zRB:=aD RB.o;clear hb_ c M N O P Q s;go_wp2_with fail;refine(HT.o _).mono ?_;rintro e X ⟨rfl,hb_⟩;have HB3:=qB R hb_;exact QBb
  .go_wp2_with fail;refine(HT.o _).mono ?_;rintro e X ⟨rfl,hb_⟩;have HB3:=qB j hb_;exact QBb
theorem Mg{ok ok':nP}(n:No)(U:oY n)(vl:Value)(l:List It)(vg:Value)(g:List Gv)(w:World)(t:aH sX w ok' vl l)(h:aH jW w ok vg g)(z:n.op=12\/n.op=13)(he:¬xV n l)(j:l.length=2):Calls prog 270 #[jS n,vl,vg] w (pN (iQ g n l) w):=by
 obtain⟨ga,gc,rfl,_⟩:=h.slice;obtain⟨la,lc,rfl,hll⟩:=t.slice;have c:=aA (aC (aB w (.cells (iS n) 292)) (aB _ (.cells nO 352)));have a:=aA (aE (aK w (.cells (iS n) 292) _ rfl) (aB (w.alloc (.cells (iS n) 292)) (.cells nO 352)));have RB:Hid (((w.alloc (.cells (iS n) 292)).alloc (.cells nO 352)).heap[w.heap.size+1]? =some (.cells nO 352 (0,0))):=aA (aK (w.alloc (.cells (iS n) 292)) (.cells nO 352) _ qs);have HEA:=aA he;have hca:(n.op=11/\l.length=1)\/(6<=n.op/\n.op<=13/\n.op≠11/\l.length=2):=qo;have aa:=aA hca;have Z:l.length=1\/l.length=2:= .inr j;have HL:=aA t;have L:0<l.length:=qo;have V:1<l.length:=qo;obtain⟨b,off,rfl⟩:=BG t L;have HER:=aA (fun k (f:k<l.length) h0 h1=>QW (g:=g) Z he f h0 h1);obtain⟨af,M⟩:=xE (iQ g n l);have HRES:=aA M;rw[<-M] at HER ⊢;obtain⟨m,hm⟩:=xE (n.op - 12);have S:IntKind.i64.wrap (n.op - 12)=m:=by rw[hm];exact IntWalk.i64_in _ qo
 have ad:wrap64 (n.op - 12)=m:=by rw[<-IntWalk.i64_left];exact S
 have d1:(n.op==1)=false:=bN.2 qo;have d2:(n.op==2)=false:=bN.2 qo;have R:Hid (((n.op==12)=true)\/((n.op==12)=false/\(n.op==13)=true)):=aA (by
  rcases z with h|h
  .exact .inl (bQ.2 h)
  .exact .inr ⟨bN.2 qo,bQ.2 h⟩)
 have P:Hid (∀(f:0<l.length),l[0].is m=false):=aA (fun f=>by
  rw[hm];refine Bool.eq_false_iff.2 (fun h=>he ⟨z,?_⟩)
  match l,j with
  | [x,y],_=>exact⟨x,y,rfl,.inl h⟩)
 have Q:Hid (∀(f:1<l.length),l[1].is m=false):=aA (fun f=>by
  rw[hm];refine Bool.eq_false_iff.2 (fun h=>he ⟨z,?_⟩)
  match l,j with
  | [x,y],_=>exact⟨x,y,rfl,.inr h⟩)
 obtain⟨xa,xc,x0,x1,x2,x3,x4,_,hbl⟩:=uA (k:=0) (HL.o.on iJ c.o) L;have o:=aA (fun w'=>tO xa l[0].bag.length xc l[0].bag l[0].val l[0].err m w');have p:=aA (fun ba bc w'=>tO ba l[1].bag.length bc l[1].bag l[1].val l[1].err m w');unfold aP at o p;have ex:It.is ⟨l[0].bag,l[0].val,l[0].err⟩ m=false:=P.o L;have T:It.is ⟨l[1].bag,l[1].val,l[1].err⟩ m=false:=Q.o V;rw[ex] at o;rw[T] at p;simp only[Nat.zero_mul,Nat.add_zero] at x0 x1 x2 x3 x4;have ag:(0:Int)<(l.length:Int):=qo;have ah:(1:Int)<(l.length:Int):=qo;have HV:=aA U;have ae:=aA j;unfold jS;clear h hca he z Z M hm U t ex T P Q j;generalize hX:l[0]=X at *;have ab:=aA (show ∃y,l[1]=y from ⟨_,rfl⟩)
 rcases R.o with d3|⟨d3,d4⟩
 all_goals
  go_enter func270,ntmps270;go_wp2_with fail;refine(o.o _).mono ?_;rintro e w1 ⟨rfl,hb_⟩;have A:=qB c hb_;replace a:=qK a hb_;obtain⟨⟨B,C,NB2,D,E,F,G⟩,_⟩:=bI a.o;have N:=aD a.o;replace RB:=qK RB hb_;obtain⟨⟨H,I,RB2,J,K⟩,_⟩:=dM RB.o;have O:=aD RB.o;clear hb_ o x0 x1 x2 x3 x4 hbl;obtain⟨ya,yc,y0,y1,y2,y3,y4,_,hbl⟩:=uA (k:=1) (HL.o.on iJ A.o) V;simp only[Nat.one_mul] at y0 y1 y2 y3 y4;generalize hY:l[1]=Y at *;go_wp2_with fail;refine(p.o _ _ _).mono ?_;rintro e W ⟨rfl,hb_⟩;clear c;have c:=qB A hb_
  try clear B C NB2 D E F G N
  replace a:=qK a hb_;obtain⟨⟨B,C,NB2,D,E,F,G⟩,_⟩:=bI a.o;have N:=aD a.o
  try clear H I RB2 J K O
  replace RB:=qK RB hb_;obtain⟨⟨H,I,RB2,J,K⟩,_⟩:=dM RB.o;have O:=aD RB.o;clear hb_ p y0 y1 y2 y3 y4 hbl hX hY ab H I RB2 J K O B C NB2 D E F G N A R d1 d2 S ad;go_wp2;go_loopw [10,57] (fun v i wr=>∃(k:Nat) (q:oD) (s:Nat),k<=l.length/\i=.int .i64 k/\v=.slice q k s/\Hid (∀i (hi:i<l.length),i<k->l[i].err=0)/\Hid (aM VR 3 30 wr W.heap.size (fun _=>True) (.slice q k s) ((l.take k).map (·.val)))/\Hid (Below W.heap.size W wr)) (fun _ i _=>l.length - (intOf i).toNat)
  case atStart=>exact QCN
  case round=>
   obtain⟨k,q,s,f,rfl,rfl,HQ,HG,HB⟩:=hrel;have HBT:=aA (c.o.trans (HB.o.mono c.o.size));by_cases hlt:k<l.length
   .exact QAf
   .have hk1:¬(k:Int)<(l.length:Int):=qo;obtain rfl:k=l.length:=qo;have HQ9:=aA (fun i (hi:i<l.length)=>HQ.o i hi hi);have HG9:=aA (by have h:=HG.o;rw[List.take_of_length_le (lR _)] at h;exact h:aM VR 3 30 wr W.heap.size (fun _=>True) (.slice q l.length s) (l.map (·.val)));have RB2:=qK RB HB.o;have NB2:=qK a HB.o;clear HQ HG HER;have hca:=aa.o;have d5:(n.op==3)=false:=bN.2 qo;have d6:(n.op==4)=false:=bN.2 qo;have d7:(n.op==5)=false:=bN.2 qo;exact QAC
theorem Mh{ok ok':nP}(n:No)(U:oY n)(vl:Value)(l:List It)(vg:Value)(g:List Gv)(w:World)(z:aH sX w ok' vl l)(h:aH jW w ok vg g)(I:n.op≠12/\n.op≠13)(he:¬xV n l)(o:xU n l):Calls prog 270 #[jS n,vl,vg] w (pN (iQ g n l) w):=by
 obtain⟨ga,gc,rfl,_⟩:=h.slice;obtain⟨la,lc,rfl,hll⟩:=z.slice;have D:=aA (aC (aB w (.cells (iS n) 292)) (aB _ (.cells nO 352)));have Q:=aA (aE (aK w (.cells (iS n) 292) _ rfl) (aB (w.alloc (.cells (iS n) 292)) (.cells nO 352)));have RB:Hid (((w.alloc (.cells (iS n) 292)).alloc (.cells nO 352)).heap[w.heap.size+1]? =some (.cells nO 352 (0,0))):=aA (aK (w.alloc (.cells (iS n) 292)) (.cells nO 352) _ qs);have HEA:=aA he;have HC:=aA o;have B:l.length=1\/l.length=2:=by unfold xU at o;omega
 have af:=aA B;have HL:=aA z;obtain⟨b,off,rfl⟩:=BG z qo;have HER:=aA (fun k (X:k<l.length) h0 h1=>QW (g:=g) B he X h0 h1);have d1:(n.op==1)=false:=bN.2 (by unfold xU at o;omega);have d2:(n.op==2)=false:=bN.2 (by unfold xU at o;omega);have d3:(n.op==12)=false:=bN.2 I.1;have d4:(n.op==13)=false:=bN.2 I.2;obtain⟨ag,J⟩:=xE (iQ g n l);have HRES:=aA J;rw[<-J] at HER ⊢;obtain⟨W0,L⟩:=xE ((w.alloc (.cells (iS n) 292)).alloc (.cells nO 352));rw[<-L] at D Q RB;have P:=aA L;have HV:=aA U;have ae:=B;unfold jS;clear h o he B J L U z ae I;go_enter func270,ntmps270;go_wp2;rw[<-P.o];clear P;obtain⟨W,hW⟩:=xE W0;subst hW;go_loopw [10,57] (fun v i wr=>∃(k:Nat) (q:oD) (s:Nat),k<=l.length/\i=.int .i64 k/\v=.slice q k s/\Hid (∀i (hi:i<l.length),i<k->l[i].err=0)/\Hid (aM VR 3 30 wr W.heap.size (fun _=>True) (.slice q k s) ((l.take k).map (·.val)))/\Hid (Below W.heap.size W wr)) (fun _ i _=>l.length - (intOf i).toNat)
 case atStart=>exact QCN
 case round=>
  obtain⟨k,q,s,X,rfl,rfl,HQ,HG,HB⟩:=hrel;have HBT:=aA (D.o.trans (HB.o.mono D.o.size));by_cases hlt:k<l.length
  .exact QAf
  .have hk1:¬(k:Int)<(l.length:Int):=qo;obtain rfl:k=l.length:=qo;have HQ9:=aA (fun i (hi:i<l.length)=>HQ.o i hi hi);have HG9:=aA (by have h:=HG.o;rw[List.take_of_length_le (lR _)] at h;exact h:aM VR 3 30 wr W.heap.size (fun _=>True) (.slice q l.length s) (l.map (·.val)));have RB2:=qK RB HB.o;have NB2:=qK Q HB.o;clear HQ HG HER;have T:=HC.o;unfold xU at T
   rcases T with ⟨h3,c⟩|⟨h3,c⟩|⟨h3,c⟩|hca
   .obtain⟨x,rfl⟩:=List.length_eq_one_iff.1 c;have G:(n.op==3)=true:=bQ.2 h3;obtain⟨ba,bc,x0,x1,x2,x3,x4,hp,hbl⟩:=uA (k:=0) (HL.o.on iJ HBT.o) qs;simp only[Nat.zero_mul,Nat.add_zero,List.getElem_cons_zero] at x0 x1 x2 x3 x4 hp;have a:=HQ9.o 0 qs;obtain⟨⟨u0,u1,u2,u3,u4⟩,_⟩:=dM RB2.o;obtain⟨⟨v0,v1,v2,v3,v4,v5,v6⟩,_⟩:=bI NB2.o;have zu:=aD RB2.o;by_cases m:x.bag.length=1
    .obtain⟨v,p⟩:=List.length_eq_one_iff.1 m;have HV2:Hid (iQ g n [x]=jP v 0):=aA (by rw[uQ,iN (fun h=>h a),iP h3,p]);have C:=hp.1;rw[p] at C x0;obtain⟨b2,ai,rfl,ah,V,_⟩:=LJ C;obtain⟨M,N,O⟩:=FQ C;have ad:=aA V;have Y:[v].length=1:=rfl;rw[Y] at x0;clear C V p m hp a h3 c Y;go_wp2;refine bR (.agg #[.slice none 0 0,.int .i64 v.1,.int .i64 v.2.1,.string v.2.2,.int .i64 0]) ?_;rw[HRES.o,HV2.o];exact mH rfl ad.o oT (uP HBT.o (Nat.le_succ _))
    .have HV2:Hid (iQ g n [x]=jP aY 4):=aA (by
      rw[uQ,iN (fun h=>h a),iP h3];split
      .rename_i v p;rw[p] at m;exact absurd rfl m
      .rfl)
     have H:((x.bag.length:Int) != 1)=true:=bne_iff_ne.2 qo;clear hp a h3 c m;go_wp2;refine bR (.agg #[.slice none 0 0,.int .i64 0,.int .i64 0,.string ⟨#[]⟩,.int .i64 4]) ?_;rw[HRES.o,HV2.o];exact mH rfl kK (by unfold bL;decide) (uP HBT.o (Nat.le_succ _))
   .obtain⟨x,rfl⟩:=List.length_eq_one_iff.1 c;have G:(n.op==3)=false:=bN.2 qo;have H:(n.op==4)=true:=bQ.2 h3;obtain⟨ba,bc,x0,x1,x2,x3,x4,hp,hbl⟩:=uA (k:=0) (HL.o.on iJ HBT.o) qs;simp only[Nat.zero_mul,Nat.add_zero,List.getElem_cons_zero] at x0 x1 x2 x3 x4 hp;have a:=HQ9.o 0 qs;obtain⟨_,_,_,S⟩:=hp.1.slice;have aa:=aA S;obtain⟨⟨u0,u1,u2,u3,u4⟩,_⟩:=dM RB2.o;obtain⟨⟨v0,v1,v2,v3,v4,v5,v6⟩,_⟩:=bI NB2.o;have zu:=aD RB2.o;have HV2:Hid (iQ g n [x]=jP (2,x.bag.length,ByteArray.empty) 0):=aA (by rw[uQ,iN (fun h=>h a),iN qo,iP h3]);clear hp a h3 c S;go_wp2;refine bR (.agg #[.slice none 0 0,.int .i64 2,.int .i64 x.bag.length,.string ⟨#[]⟩,.int .i64 0]) ?_;rw[HRES.o,HV2.o];exact mH rfl ⟨LW,show bL (x.bag.length:Int) by have:=aa.o;unfold bL;omega,show ByteArray.empty.size<=cQ by decide⟩ oT (uP HBT.o (Nat.le_succ _))
   .obtain⟨x,y,rfl⟩:∃x y,l=[x,y]:=by
     match l,c with
     | [x,y],_=>exact⟨x,y,rfl⟩
    have G:(n.op==3)=false:=bN.2 qo;have H:(n.op==4)=false:=bN.2 qo;have e7:(n.op==5)=true:=bQ.2 h3;obtain⟨ba,bc,x0,x1,x2,x3,x4,hp,hbl⟩:=uA (k:=0) (HL.o.on iJ HBT.o) qs;obtain⟨ya,yc,M,N,O,y3,y4,_,_⟩:=uA (k:=1) (HL.o.on iJ HBT.o) qs;simp only[Nat.zero_mul,Nat.one_mul,Nat.add_zero,List.getElem_cons_zero,List.getElem_cons_succ] at x0 x1 x2 x3 x4 hp M N O y3 y4;have a:=HQ9.o 0 qs;have Z:=HQ9.o 1 qs;obtain⟨⟨u0,u1,u2,u3,u4⟩,_⟩:=dM RB2.o;obtain⟨⟨v0,v1,v2,v3,v4,v5,v6⟩,_⟩:=bI NB2.o;have zu:=aD RB2.o;obtain⟨t,K⟩:∃t:Bool,x.bag.any (fun v=>decide (v=y.val))=t:=⟨_,rfl⟩;obtain⟨f,A⟩:∃f:Int,(if t=true then (1:Int) else 0)=f:=⟨_,rfl⟩;have HV2:Hid (iQ g n [x,y]=jP (1,f,ByteArray.empty) 0):=aA (by
     rw[EJ HEA.o,iN (fun h=>h a),iN (fun h=>h Z),iP h3,K];unfold cI;rw[A])
    have ab:Hid (cS (1,f,ByteArray.empty)):=aA (by rw[<-A];exact oB t);have E:=aA (fun w'=>IN t f A w');have j:=aA (Xo _ x.bag y.val wr.drew (hp.1.aDW bG ((aJ (ok:=ok') (Below.refl wr.heap.size wr)).trans ⟨rfl,rfl,rfl,lR _,fun _ _ _=>rfl⟩)));unfold aP at E j;unfold dC at j;rw[K] at j;clear hp a Z h3 c K A;go_wp2;refine rB 8 (by kernel_rfl) (by kernel_rfl) ?_;simp only[List.take_succ_cons,List.take_zero,List.drop_succ_cons,List.drop_zero]
    repeat still_step
    refine wpStill_nil ?_;go_wp2_with fail;refine j.o.mono ?_;rintro e w2 ⟨rfl,hb_⟩;have HB2:=aA (aC HBT.o.drew hb_);have F:=aA (aE (show (wr.drew).heap[w.heap.size+1]? =_ from RB2.o) hb_);clear hb_ j x0 x1 x2 x3 x4 M N O y3 y4 u0 u1 u2 u3 u4 v0 v1 v2 v3 v4 v5 v6 zu;obtain⟨⟨u0,u1,u2,u3,u4⟩,_⟩:=dM F.o;have zu:=aD F.o;go_wp2_with fail;refine(E.o _).mono ?_;rintro e w3 ⟨rfl,hb_⟩;have HB3:=qB HB2 hb_;have R:=qK F hb_;clear hb_ E u0 u1 u2 u3 u4 zu;obtain⟨⟨u0,u1,u2,u3,u4⟩,_⟩:=dM R.o;have zu:=aD R.o;go_wp2;refine bR (.agg #[.slice none 0 0,.int .i64 1,.int .i64 f,.string ByteArray.empty,.int .i64 0]) ?_;rw[HRES.o,HV2.o];exact mH rfl ab.o oT (uP HB3.o (Nat.le_succ _))
   .have G:(n.op==3)=false:=bN.2 qo;have H:(n.op==4)=false:=bN.2 qo;have e7:(n.op==5)=false:=bN.2 qo;exact QAC
def Uz(n:No)(l:List It):Prop:=((n.op=1\/n.op=2)/\l=[])\/xU n l
theorem Rv{ok ok':nP}(n:No)(c:oY n)(b:Value)(l:List It)(a:Value)(g:List Gv)(w:World)(d:aH sX w ok' b l)(h:aH jW w ok a g)(hw:Uz n l):Calls prog 270 #[jS n,b,a] w (pN (iQ g n l) w):=by
 rcases hw with ⟨h1|h1,e⟩|hw
 .exact Mc n c b l a g w d h h1 e
 .exact Md n c b l a g w d h h1 e
 by_cases he:xV n l
 .exact Mf n c b l a g w d h he
 by_cases f:n.op=12\/n.op=13
 .exact Mg n c b l a g w d h f he (by unfold xU at hw;omega)
 .exact Mh n c b l a g w d h qo he hw
theorem IP{op:Int}{m:List Bool}(h:mX op=some m):m.length=jR op/\((op=1\/op=2)\/op=3\/op=4\/op=5\/op=11\/(6<=op/\op<=13/\op≠11)):=by
 unfold mX at h;unfold jR;split at h
 .rename_i h1;injection h with h;subst h;rw[iP h1];exact⟨rfl,.inl h1⟩
 rename_i h1;split at h
 .rename_i h2;injection h with h;subst h;rw[iN h1,iP qo];exact⟨rfl,qo⟩
 rename_i h2;split at h
 .rename_i h3;injection h with h;subst h;rw[iN h1,iN qo];exact⟨rfl,qo⟩
 rename_i h3;split at h
 .rename_i h4;injection h with h;subst h;rw[iN h1,iP qo];exact⟨rfl,qo⟩
 rename_i h4;split at h
 .rename_i h5;injection h with h;subst h;rw[iN h1,iN qo];exact⟨rfl,qo⟩
 .cases h
def tP(r:List No)(st:List It):Prop:=∃a made:List Bool,a.length=st.length/\iO r a=some made
theorem LX{n:No}{r:List No}{st:List It}(h:tP (n::r) st):jR n.op<=st.length/\Uz n (st.drop (st.length - jR n.op))/\∀x,tP r (st.take (st.length - jR n.op)++[x]):=by
 obtain⟨d,made,f,b⟩:=h;unfold iO at b
 cases he:lI d n with
 |none=>rw[he] at b;cases b
 |some t2=>
  rw[he] at b;dsimp only at b;unfold lI at he
  cases hw:mX n.op with
  |none=>rw[hw] at he;cases he
  |some m=>
   rw[hw] at he;dsimp only at he;obtain⟨ha,a⟩:=IP hw;split at he
   .rename_i e;injection he with he;have h1:jR n.op<=st.length:=qo;have c:(st.drop (st.length - jR n.op)).length=jR n.op:=by rw[List.length_drop];omega
    refine⟨h1,?_,fun x=>⟨t2,made,?_,b⟩⟩
    .rcases a with a|a
     .have h0:jR n.op=0:=by unfold jR;rw[iP a]
      exact .inl ⟨a,List.eq_nil_of_length_eq_zero qo⟩
     .refine .inr ?_;unfold xU;rw[c];unfold jR
      rcases a with h|h|h|h|h
      .exact .inl ⟨h,by rw[iN qo,iP qo]⟩
      .exact .inr (.inl ⟨h,by rw[iN qo,iP qo]⟩)
      .exact .inr (.inr (.inl ⟨h,by rw[iN qo,iN qo]⟩))
      .exact .inr (.inr (.inr (.inl ⟨h,by rw[iN qo,iP qo]⟩)))
      .exact .inr (.inr (.inr (.inr ⟨h.1,h.2.1,h.2.2,by rw[iN qo,iN qo]⟩)))
    .rw[<-he,aL,aL,List.length_take,List.length_take];simp only[List.length_singleton];omega
   .cases he
theorem Rw{l:List No}(h:lJ l=0)(d:l≠[]):tP l []/\∀b made,iO l b=some made->b=[]->made=[false]:=by
 unfold lJ at h;split at h
 .cases h
 cases a:iO l [] with
 |none=>rw[a] at h;cases h
 |some made=>
  rw[a] at h;dsimp only at h;split at h
  .cases h
  rename_i c;refine⟨⟨[],made,rfl,a⟩,fun b m2 hm f=> ?_⟩;subst f;rw[a] at hm;injection hm with hm;subst hm;have hp:0<l.length:=List.length_pos_iff.2 d;by_cases e:made=[false]
  .exact e
  .exact absurd ⟨hp,e⟩ c
theorem LY:∀(l:List No) (a made:List Bool),iO l a=some made->∀(g:List Gv) (st:List It),st.length=a.length->(zN g l st).length=made.length
 | [],a,made,h,g,st,hl=>by
   injection h with h;subst h;exact hl
 |n::r,a,made,h,g,st,hl=>by
  have c:=LX (n:=n) (r:=r) (st:=st) ⟨a,made,hl.symm,h⟩;unfold iO at h
  cases he:lI a n with
  |none=>rw[he] at h;cases h
  |some t2=>
   rw[he] at h;dsimp only at h;unfold zN;refine LY r t2 made h g _ ?_;unfold lI at he
   cases hw:mX n.op with
   |none=>rw[hw] at he;cases he
   |some m=>
    rw[hw] at he;dsimp only at he;obtain⟨ha,_⟩:=IP hw;split at he
    .rename_i b;injection he with he;rw[<-he,aL,aL,List.length_take,List.length_take];simp only[List.length_singleton];omega
    .cases he
theorem SR{g:List Gv}{l:List No}{st R:List It}{k:Nat}(a:k<l.length)(h:zN g (l.drop k) st=R):zN g (l.drop (k+1)) (st.take (st.length - jR l[k].op)++[iQ g l[k] (st.drop (st.length - jR l[k].op))])=R:=by
 rw[List.drop_eq_getElem_cons a] at h;exact h
theorem Rx{l:List No}{st:List It}{k:Nat}(a:k<l.length)(h:tP (l.drop k) st):tP (l[k] ::l.drop (k+1)) st:=by
 rw[List.drop_eq_getElem_cons a] at h;exact h
theorem QAk{p:Prop}(h:p:=by
 clear HND HT HGG;go_wp2;rw[<-HWW.o,<-HBB.o];go_region_held3 (fun w'=>w'.cell? ⟨bn,0,none⟩=some (.int .i64 n.op)/\w'.cell? ⟨bn,1,none⟩=some (.int .i64 n.val.1)/\w'.cell? ⟨bn,2,none⟩=some (.int .i64 n.val.2.1)/\w'.cell? ⟨bn,3,none⟩=some (.string n.val.2.2)/\w'.cell? ⟨bn,4,none⟩=some (.int .i64 n.aEe.cat)/\w'.cell? ⟨bn,5,none⟩=some (.string n.aEe.name)/\w'.cell? ⟨bn,6,none⟩=some (.bool n.aEe.aEm))
  (first|assumption |exact HBK.o _ (aE HN9.o (aB _ _)))
  ((first
    |(go_at_call 270;refine(HND2.o _ (Below.refl _ _).drew).mono ?_;rintro e w9 ⟨va9,vc9,rfl,hit,hb9⟩;have HN9:=aA (aE (show W.drew.heap[bn]? =_ from HBN.o) hb9);have hS9:=HBK.o _ HN9.o;have HB9:=aA (aC (Below.refl W.heap.size W).drew hb9);have HI9:=aA hit;clear hit hb9)
    |(refine jA (base:=w1.heap.size) aAq iJ rfl (.tmp 33) (.tmp 40) rfl _ (st.take q) rfl (HCUT.o _ (aC HB9.o (aB _ _))) w9.heap.size 1 _ _ _ nv rfl (aK w9 _ _ rfl) ⟨_,rfl,HY.o _ _ _ HI9.o⟩ (by rw[HLQ.o];have:=HST.o;have:=HM.o;omega) qe (lT HSZ.o (lT HB9.o.size (by rw[World.size_alloc];exact Nat.le_succ _))) ?_;intro l' hl' A' c2 w10 hG hgr hat';have HG10:=aA hG;have HB10:=aA ((HCUT.o _ (aC HB9.o (aB w9 (.cells #[.slice va9 nv.bag.length vc9,.int .i64 nv.val.1,.int .i64 nv.val.2.1,.string nv.val.2.2,.int .i64 nv.err] 352)))).below (aC HBW.o (aC HB9.o (aB w9 _))) hgr (lR _) (lT HSZ.o (lT HB9.o.size (by rw[World.size_alloc];exact Nat.le_succ _))));have HL10:=aA hl'.o;have hS10:=HBK.o w10 ((hgr.block bn (lL (aD HN9.o) (by rw[World.size_alloc];exact Nat.le_succ _)) HNG.o).trans (aE HN9.o (aB _ _)));clear hG hgr hat' hl')))
 have e10:l'.length=q+1:=by rw[HL10.o,aL,HLQ.o];rfl
 rw[e10] at HG10 ⊢;go_wp2;go_roundw
 case rel=>exact⟨k+1,q+1,A',c2,l',qo,e10.symm,qo,by go_num,rfl,aA (by rw[HL10.o];exact HR3.o),aA (by rw[HL10.o];exact HS3.o nv),HG10,HB10⟩
 case measure=>simp[intOf];omega):p:=h
theorem aM.tail{α:Type}{R:Rep α}{s:Nat}{e:TypeId}{w:World}{base:Nat}{ok:nP}(F:Firm R s){g n c:Nat}{l:List α}(h:aM R s e w base ok (.slice (some ⟨g,0,none⟩) n c) l)(y:l.length<=1000000)(m:Nat)(hm:m<=l.length)(k:Nat):aH R w (fun _=>True) (.slice (some ⟨g,m * s,none⟩) (l.length - m) k) (l.drop m):=by
 obtain⟨cs,h1,h2⟩:=h;obtain⟨a,c2,d,_,h3,_⟩:=lX h1;injection d with d _ _;subst d;refine⟨_,k,cs.drop (m * s),by rw[List.length_drop],?_,((h2.split (fun _ _ j=>F.len j) m hm).2).mono (fun r x j=>F.more j fun _ _=>trivial),by rw[List.length_drop];omega⟩;intro v;obtain⟨b,off,f,z,t⟩:=h3 (by rintro rfl;simp at v);injection f with f;injection f with p q _;subst p q;refine⟨g,m * s,rfl,trivial,fun i x o=> ?_⟩;rw[List.getElem?_drop] at o;have:=t _ _ o;rwa [Nat.zero_add] at this
theorem aAq:dZ prog 370 352 5 64:=fR (z:= .agg #[.slice none 0 0,.int .i64 0,.int .i64 0,.string ByteArray.empty,.int .i64 0]) underlying370 (by kernel_rfl) rfl qe
def aBb:List It->V3×Int
 |x::_=>(x.val,x.err)
 | []=>(aY,1)
def Ca(r:V3×Int)(w:World)(e:Ending)(w':World):Prop:=e=.returned (.tuple #[dC r.1,.int .i64 r.2])/\cS r.1/\Below w.heap.size w w'
theorem Gd{ok ok':nP}(vl:Value)(l:List No)(vg:Value)(g:List Gv)(w:World)(N:aH KJ w ok' vl l)(h:aH jW w ok vg g):Calls prog 249 #[vl,vg] w (Ca (oE g l) w):=by
 obtain⟨E,gc,rfl,_⟩:=h.slice;obtain⟨la,lc,rfl,be⟩:=N.slice;obtain⟨HG,HL,P,s⟩:=dH h N (aB w (.cells fW 30)) (aK w (.cells fW 30) _ rfl);have y:=aA (IL _ l _ (N.on dQ P.o));unfold aP at y;clear h N;by_cases t:l=[]
 .subst t;have C:Hid (oE g []=(aY,1)):=aA (iP (.inl rfl));clear y;go_enter func249,ntmps249;go_wp2;refine bR (.tuple #[.agg #[.int .i64 0,.int .i64 0,.string ⟨#[]⟩],.int .i64 1]) ?_;rw[C.o];exact⟨rfl,kK,aB _ _⟩
 have hz:((l.length:Int)==0)=false:=bN.2 (fun h=>t (List.eq_nil_of_length_eq_zero qo));by_cases he:lJ l=0
 case neg=>
  have C:Hid (oE g l=(aY,1)):=aA (iP (.inr he));have d:(lJ l != 0)=true:=bne_iff_ne.2 he;generalize lJ l=e0 at *;clear t he;go_enter func249,ntmps249;go_wp2_with fail;refine y.o.mono ?_;rintro e w1 ⟨rfl,z⟩;have B:=qB P z;replace s:=qK s z;obtain⟨⟨ab,ad,ae⟩,_⟩:=cF s.o;have aq:=aD s.o;clear z y;go_wp2;refine bR (.tuple #[.agg #[.int .i64 0,.int .i64 0,.string ⟨#[]⟩],.int .i64 1]) ?_;rw[C.o];exact⟨rfl,kK,((B.o.setCell (lR _) _).setCell (lR _) _).setCell (lR _) _⟩
 obtain⟨R,M⟩:=xE (zN g l []);have C:Hid (oE g l=aBb R):=aA (by unfold oE;rw[iN (fun h=>h.elim t (fun h=>h he)),M];rfl);have ah:Hid (zN g (l.drop 0) []=R):=aA (by rw[List.drop_zero];exact M.symm);obtain⟨H,an⟩:=Rw he t;have HST:Hid (tP (l.drop 0) []):=aA (by rw[List.drop_zero];exact H);have ag:Hid (R.length=1):=aA (by
  obtain⟨aa,made,h1,h2⟩:=H;have ht:aa=[]:=List.eq_nil_of_length_eq_zero h1;have:=an aa made h2 ht;rw[M,LY l aa made h2 g [] h1.symm,this];rfl)
 rw[he] at y;clear he t M H an;go_enter func249,ntmps249;go_wp2_with fail;refine y.o.mono ?_;rintro e w1 ⟨rfl,z⟩;have B:=qB P z;replace s:=qK s z;obtain⟨⟨ab,ad,ae⟩,_⟩:=cF s.o;have aq:=aD s.o;clear z y ab ad ae aq;go_wp2;go_loopw [6,21] (fun v i wr=>∃(k m:Nat) (L:oD) (j:Nat) (st:List It),k<=l.length/\m=st.length/\m<=k/\i=.int .i64 k/\v=.slice L m j/\Hid (zN g (l.drop k) st=R)/\Hid (tP (l.drop k) st)/\Hid (aM sX 5 352 wr w1.heap.size (fun _=>True) (.slice L m j) st)/\Hid (Below w1.heap.size w1 wr)) (fun _ i _=>l.length - (intOf i).toNat)
 case atStart=>exact⟨0,0,none,0,[],qo,rfl,qo,rfl,rfl,ah,HST,aA aM.nil,aA (Below.refl _ _)⟩
 case round=>
  clear ah HST;obtain⟨k,m,L,j,st,hk,hm,bf,rfl,rfl,K,T,A,I⟩:=hrel;by_cases V:k<l.length
  .have ay:(k:Int)<(l.length:Int):=qo;obtain⟨b,off,r,rfl,_,av,⟨rfl,ak⟩,hc⟩:=aH.at dQ (HL.o.on dQ (aC B.o I.o)) V qe;obtain⟨O,x1,x2,x3,x4,x5,x6⟩:=CW hc;rw[Nat.add_zero] at O;obtain⟨h1,h2,h3⟩:=LX (Rx V T.o);have Z:=SR V K.o;have au:=aA ak;clear hc K T ak;rw[<-hm] at h1 h2 h3 Z;have S:=aA (fun w=>Lx l[k].op w);have HND:=aA (fun (a7:nP) v9 (w9:World) (a6:aH sX w9 a7 v9 (st.drop (m - jR l[k].op))) (ax:aH jW w9 ok (.slice E g.length gc) g)=>Rv l[k] au.o v9 _ _ g w9 a6 ax h2);have HS3:=aA h3;have HR3:=aA Z;clear h2 h3 Z;generalize t:l[k]=n at *;clear t;obtain⟨q,X⟩:=xE (m - jR n.op);rw[<-X] at HND HS3 HR3;have bg:q<=m:=qo;obtain⟨D,aj⟩:∃D,jR n.op=D:=⟨_,rfl⟩;rw[aj] at S X h1;have ew:IntKind.i64.wrap ((m:Int) - (D:Int))=(q:Int):=by rw[IntWalk.i64_in _ qo];omega
   have ai:wrap64 ((m:Int) - (D:Int))=(q:Int):=by rw[IntWalk.wrap64_in _ qo];omega
   have HM:=aA hm;clear aj hm X;obtain⟨nv,ao⟩:∃nv,iQ g n (st.drop q)=nv:=⟨_,rfl⟩;rw[ao] at HND HR3;unfold pN jS at HND;clear ao;go_wp2_with fail;refine(S.o _).mono ?_;rintro e w2 ⟨rfl,rfl⟩;obtain⟨a1,bd,bb⟩:=A.o.place;have q0:(0:Int)<=(q:Int):=qo;have q1:(q:Int)<=(m:Int):=qo;have q2:(q:Int)<=(j:Int):=qA HM.o;obtain⟨W,F⟩:=xE (wr.alloc (.cells (iS n) 292));obtain⟨bn,U⟩:=xE wr.heap.size;have HBW:=aA (F▸aC I.o (aB wr _):Below w1.heap.size w1 W);have HBN:=aA (F▸U▸aK wr (.cells (iS n) 292) _ rfl:W.heap[bn]? =some (.cells (iS n) 292 (0,0)));have J:=aA (F▸A.o.on iJ (aB wr _):aM sX 5 352 W w1.heap.size (fun _=>True) (.slice L m j) st);have HWW:=aA F;have HBB:=aA U;have HGG:Hid (∀w',Below W.heap.size W w'->aH jW w' ok (.slice E g.length gc) g):=aA (fun w' a=>(HG.o.on cA (aC B.o (aC HBW.o a))));have HSZ:=aA HBW.o.size;have HBK:Hid (∀w':World,w'.heap[bn]? =some (.cells (iS n) 292 (0,0))->(w'.cell? ⟨bn,0,none⟩=some (.int .i64 n.op)/\w'.cell? ⟨bn,1,none⟩=some (.int .i64 n.val.1)/\w'.cell? ⟨bn,2,none⟩=some (.int .i64 n.val.2.1)/\w'.cell? ⟨bn,3,none⟩=some (.string n.val.2.2)/\w'.cell? ⟨bn,4,none⟩=some (.int .i64 n.aEe.cat)/\w'.cell? ⟨bn,5,none⟩=some (.string n.aEe.name)/\w'.cell? ⟨bn,6,none⟩=some (.bool n.aEe.aEm))):=aA (fun w' h=>by
    obtain⟨⟨h0,h1,h2,h3,h4,h5,h6⟩,_⟩:=bI h;exact⟨h0,h1,h2,h3,h4,h5,h6⟩)
   have a8:=HBK.o W.drew HBN.o;have HST:=aA (show st.length<=1000000 by have:=HM.o;omega);have HLQ:Hid ((st.take q).length=q):=aA (by rw[List.length_take];have:=HM.o;omega);clear F U S O x1 x2 x3 x4 x5 x6
   rcases a1 with ⟨rfl,rfl⟩|⟨gs,rfl⟩
   .obtain rfl:st=[]:=List.eq_nil_of_length_eq_zero qo;have az:m=0:=HM.o;subst az;obtain rfl:q=0:=qo;obtain rfl:D=0:=qo;replace ew:IntKind.i64.wrap ((0:Int) - 0)=0:=ew;replace ai:wrap64 ((0:Int) - 0)=0:=ai;have HCUT:Hid (∀w',Below W.heap.size W w'->aM sX 5 352 w' w1.heap.size (fun _=>True) (.slice none 0 0) (([]:List It).take 0)):=aA (fun w' a=>aM.nil);have HT:Hid (∀w',Below W.heap.size W w'->aH sX w' (fun _=>True) (.slice none 0 0) (([]:List It).drop 0)):=aA (fun w' a=>aH.nil);have HND2:Hid (∀w',Below W.heap.size W w'->Calls prog 270 #[.agg #[.int .i64 n.op,.int .i64 n.val.1,.int .i64 n.val.2.1,.string n.val.2.2,.int .i64 n.aEe.cat,.string n.aEe.name,.bool n.aEe.aEm],.slice none 0 0,.slice E g.length gc] w' (fun e p=>∃f vc,e=.returned (.agg #[.slice f nv.bag.length vc,.int .i64 nv.val.1,.int .i64 nv.val.2.1,.string nv.val.2.2,.int .i64 nv.err])/\CD p (fun b=>W.heap.size<=b) nv (.slice f nv.bag.length vc)/\Below w'.heap.size w' p)):=aA (fun w' a=>(HND.o _ _ w' (HT.o w' a) (HGG.o w' a)).mono (fun e p ⟨vb,he,h1,h2⟩=>by
     obtain⟨f,vc,rfl,_⟩:=h1.1.slice;exact⟨f,vc,he,⟨h1.1.more bG (fun b G=>lT a.size G),h1.2⟩,h2⟩))
    have HNG:Hid (some bn≠(Value.slice none 0 0).ownBlock):=aA (fun e=>by
     have c:some bn=none:=e
     cases c)
    have HY:Hid (∀w9 vb o,CD w9 (fun b=>W.heap.size<=b) nv vb->CD (w9.alloc o) (fun b=>True/\b<(w9.alloc o).heap.size/\some b≠(Value.slice none 0 0).ownBlock) nv vb):=aA (fun w9 vb o h=>⟨((h.1.inb bG).on bG (aB w9 o)).more bG (fun b a=>⟨trivial,by rw[World.size_alloc];have:=a.2;omega,fun e=>by
     have c:some b=none:=e
     cases c⟩),h.2⟩)
    clear HND HT HGG;go_wp2;rw[<-HWW.o,<-HBB.o];go_region_held3 (fun w'=>w'.cell? ⟨bn,0,none⟩=some (.int .i64 n.op)/\w'.cell? ⟨bn,1,none⟩=some (.int .i64 n.val.1)/\w'.cell? ⟨bn,2,none⟩=some (.int .i64 n.val.2.1)/\w'.cell? ⟨bn,3,none⟩=some (.string n.val.2.2)/\w'.cell? ⟨bn,4,none⟩=some (.int .i64 n.aEe.cat)/\w'.cell? ⟨bn,5,none⟩=some (.string n.aEe.name)/\w'.cell? ⟨bn,6,none⟩=some (.bool n.aEe.aEm))
     (first|assumption |exact HBK.o _ (aE HN9.o (aB _ _)))
     ((first
       |(go_at_call 270;refine(HND2.o _ (Below.refl _ _).drew).mono ?_;rintro e w9 ⟨va9,vc9,rfl,hit,hb9⟩;have HN9:=aA (aE (show W.drew.heap[bn]? =_ from HBN.o) hb9);have hS9:=HBK.o _ HN9.o;have HB9:=aA (aC (Below.refl W.heap.size W).drew hb9);have HI9:=aA hit;clear hit hb9)
       |(refine jA (base:=w1.heap.size) aAq iJ rfl (.tmp 33) (.tmp 40) rfl _ (([]:List It).take 0) rfl (HCUT.o _ (aC HB9.o (aB _ _))) w9.heap.size 1 _ _ _ nv rfl (aK w9 _ _ rfl) ⟨_,rfl,HY.o _ _ _ HI9.o⟩ (by rw[HLQ.o];have:=HST.o;have:=HM.o;omega) qe (lT HSZ.o (lT HB9.o.size (by rw[World.size_alloc];exact Nat.le_succ _))) ?_;intro l' hl' A' c2 w10 hG hgr hat';have HG10:=aA hG;have HB10:=aA ((HCUT.o _ (aC HB9.o (aB w9 (.cells #[.slice va9 nv.bag.length vc9,.int .i64 nv.val.1,.int .i64 nv.val.2.1,.string nv.val.2.2,.int .i64 nv.err] 352)))).below (aC HBW.o (aC HB9.o (aB w9 _))) hgr (lR _) (lT HSZ.o (lT HB9.o.size (by rw[World.size_alloc];exact Nat.le_succ _))));have HL10:=aA hl'.o;have hS10:=HBK.o w10 ((hgr.block bn (lL (aD HN9.o) (by rw[World.size_alloc];exact Nat.le_succ _)) HNG.o).trans (aE HN9.o (aB _ _)));clear hG hgr hat' hl')))
    have e10:l'.length=0+1:=by rw[HL10.o,aL,HLQ.o];rfl
    rw[e10] at HG10 ⊢;go_wp2;go_roundw
    case rel=>exact⟨k+1,0+1,A',c2,l',qo,e10.symm,qo,by go_num,rfl,aA (by rw[HL10.o];exact HR3.o),aA (by rw[HL10.o];exact HS3.o nv),HG10,HB10⟩
    case measure=>simp[intOf];omega
   .have HCUT:Hid (∀w',Below W.heap.size W w'->aM sX 5 352 w' w1.heap.size (fun _=>True) (.slice (some ⟨gs,0,none⟩) q j) (st.take q)):=aA (fun w' a=>(J.o.cut iJ q (qA HM.o)).on iJ a);by_cases aw:j=q
    .obtain rfl:q=j:=aw.symm;obtain rfl:q=m:=qA HM.o;have HT:Hid (∀w',Below W.heap.size W w'->aH sX w' (fun _=>True) (.slice (some ⟨gs,0,none⟩) 0 0) (st.drop q)):=aA (fun w' a=>by rw[List.drop_of_length_le (qA HM.o)];exact aH.nil);have HND2:Hid (∀w',Below W.heap.size W w'->Calls prog 270 #[.agg #[.int .i64 n.op,.int .i64 n.val.1,.int .i64 n.val.2.1,.string n.val.2.2,.int .i64 n.aEe.cat,.string n.aEe.name,.bool n.aEe.aEm],.slice (some ⟨gs,0,none⟩) 0 0,.slice E g.length gc] w' (fun e p=>∃f vc,e=.returned (.agg #[.slice f nv.bag.length vc,.int .i64 nv.val.1,.int .i64 nv.val.2.1,.string nv.val.2.2,.int .i64 nv.err])/\CD p (fun b=>W.heap.size<=b) nv (.slice f nv.bag.length vc)/\Below w'.heap.size w' p)):=aA (fun w' a=>(HND.o _ _ w' (HT.o w' a) (HGG.o w' a)).mono (fun e p ⟨vb,he,h1,h2⟩=>by
      obtain⟨f,vc,rfl,_⟩:=h1.1.slice;exact⟨f,vc,he,⟨h1.1.more bG (fun b G=>lT a.size G),h1.2⟩,h2⟩))
     have Q:=aA (J.o.lt gs rfl);have HNG:Hid (some bn≠(Value.slice (some ⟨gs,0,none⟩) q q).ownBlock):=aA (fun e=>by
      have c:some bn=some gs:=e;injection c with c;have h1:=(A.o.lt gs rfl).2;have h2:=HBB.o;omega)
     have HY:Hid (∀w9 vb o,CD w9 (fun b=>W.heap.size<=b) nv vb->CD (w9.alloc o) (fun b=>True/\b<(w9.alloc o).heap.size/\some b≠(Value.slice (some ⟨gs,0,none⟩) q q).ownBlock) nv vb):=aA (fun w9 vb o h=>⟨((h.1.inb bG).on bG (aB w9 o)).more bG (fun b a=>⟨trivial,by rw[World.size_alloc];have:=a.2;omega,fun e=>by
      have c:some b=some gs:=e;injection c with c;have:=a.1;have:=Q.o.2;omega⟩),h.2⟩)
     exact QAk
    .have HT:Hid (∀w',Below W.heap.size W w'->aH sX w' (fun _=>True) (.slice (some ⟨gs,q * 5,none⟩) (m - q) (j - q)) (st.drop q)):=aA (fun w' a=>by have:=(J.o.on iJ a).tail iJ HST.o q (qA HM.o) (j - q);rwa [<-HM.o] at this);have HND2:Hid (∀w',Below W.heap.size W w'->Calls prog 270 #[.agg #[.int .i64 n.op,.int .i64 n.val.1,.int .i64 n.val.2.1,.string n.val.2.2,.int .i64 n.aEe.cat,.string n.aEe.name,.bool n.aEe.aEm],.slice (some ⟨gs,q * 5,none⟩) (m - q) (j - q),.slice E g.length gc] w' (fun e p=>∃f vc,e=.returned (.agg #[.slice f nv.bag.length vc,.int .i64 nv.val.1,.int .i64 nv.val.2.1,.string nv.val.2.2,.int .i64 nv.err])/\CD p (fun b=>W.heap.size<=b) nv (.slice f nv.bag.length vc)/\Below w'.heap.size w' p)):=aA (fun w' a=>(HND.o _ _ w' (HT.o w' a) (HGG.o w' a)).mono (fun e p ⟨vb,he,h1,h2⟩=>by
      obtain⟨f,vc,rfl,_⟩:=h1.1.slice;exact⟨f,vc,he,⟨h1.1.more bG (fun b G=>lT a.size G),h1.2⟩,h2⟩))
     have Q:=aA (J.o.lt gs rfl);have HNG:Hid (some bn≠(Value.slice (some ⟨gs,0,none⟩) q j).ownBlock):=aA (fun e=>by
      have c:some bn=some gs:=e;injection c with c;have h1:=(A.o.lt gs rfl).2;have h2:=HBB.o;omega)
     have HY:Hid (∀w9 vb o,CD w9 (fun b=>W.heap.size<=b) nv vb->CD (w9.alloc o) (fun b=>True/\b<(w9.alloc o).heap.size/\some b≠(Value.slice (some ⟨gs,0,none⟩) q j).ownBlock) nv vb):=aA (fun w9 vb o h=>⟨((h.1.inb bG).on bG (aB w9 o)).more bG (fun b a=>⟨trivial,by rw[World.size_alloc];have:=a.2;omega,fun e=>by
      have c:some b=some gs:=e;injection c with c;have:=a.1;have:=Q.o.2;omega⟩),h.2⟩)
     exact QAk
  .have ay:¬(k:Int)<(l.length:Int):=qo;obtain rfl:k=l.length:=qo;have H:st=R:=by have:=K.o;rwa [List.drop_length] at this
   subst H;have al:=ag.o;obtain⟨x,rfl⟩:=List.length_eq_one_iff.1 al;obtain rfl:m=1:=hm;have Y:=A.o.sl qs (fun _=>True) (fun _ _ _=>trivial) (fun _ _ _=>trivial) iJ;obtain⟨gs,go,rfl⟩:=BG Y qs;obtain⟨ba,bc,O,x1,x2,x3,x4,hp,av⟩:=uA (k:=0) Y qs;simp only[Nat.zero_mul,Nat.add_zero,List.getElem_cons_zero] at O x1 x2 x3 x4 hp;obtain⟨HP,af,B1⟩:=aZ hp (aC B.o I.o) (aE s.o I.o);obtain⟨⟨u0,u1,u2⟩,_⟩:=cF B1.o;have zu:=aD B1.o;clear Y hp al K T A ag;go_wp2;go_region
   all_goals
    go_wp2;refine bR (.tuple #[.agg #[.int .i64 x.val.1,.int .i64 x.val.2.1,.string x.val.2.2],.int .i64 x.err]) ?_;rw[C.o];refine⟨rfl,HP.o.2.1,?_⟩
    first
     |exact(((af.o.setCell (lR _) _).setCell (lR _) _).setCell (lR _) _).drew
     |exact((af.o.drew.setCell (lR _) _).setCell (lR _) _).setCell (lR _) _
end Go.Proofs.YthcgdgkpgdjahaaGreatDoor
