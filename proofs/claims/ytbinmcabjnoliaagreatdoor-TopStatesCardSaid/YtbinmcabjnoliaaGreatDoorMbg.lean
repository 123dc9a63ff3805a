/- Lemmas. -/
import Derived.Test.YtbinmcabjnoliaaGreatDoorMbf
import Derived.Test.YtbinmcabjnoliaaGreatDoorMbc
namespace Go.Proofs.YtbinmcabjnoliaaGreatDoor
open Go.RowKit
set_option linter.unusedVariables false
set_option linter.unusedSimpArgs false
set_option maxHeartbeats 16000000
open _root_.Go.Proofs.Tryz
set_option maxRecDepth 20000
def pD(x:It)(w:World)(e:Ending)(w':World):Prop:=∃vb,e=.returned (.agg #[vb,.int .i64 x.val.1,.int .i64 x.val.2.1,.string x.val.2.2,.int .i64 x.err])/\BQ w' (fun b=>w.heap.size<=b) x vb/\Below w.heap.size w w'
theorem lX{x:It}{v:V3}{e:Int}{w w':World}(c:x=jG v e)(b:cS v)(he:bK e)(a:Below w.heap.size w w'):pD x w (.returned (.agg #[.slice none 0 0,.int .i64 v.1,.int .i64 v.2.1,.string v.2.2,.int .i64 e])) w':=by
 subst c;exact⟨_,rfl,⟨aH.nil,b,he⟩,a⟩
theorem Ef{w:World}{g:Nat}{a b c d e:Value}:aN (fun k=>k≠g) w (((((w.setCell ⟨g,0,none⟩ a).setCell ⟨g,1,none⟩ b).setCell ⟨g,2,none⟩ c).setCell ⟨g,3,none⟩ d).setCell ⟨g,4,none⟩ e):=
 ((((aI a).trans (aI b)).trans (aI c)).trans (aI d)).trans (aI e)
theorem uC{W w:World}{g:Nat}{a b c d e:Value}(h:Below W.heap.size W w)(f:W.heap.size<=g):Below W.heap.size W (((((w.setCell ⟨g,0,none⟩ a).setCell ⟨g,1,none⟩ b).setCell ⟨g,2,none⟩ c).setCell ⟨g,3,none⟩ d).setCell ⟨g,4,none⟩ e):=
 ((((h.setCell f _).setCell f _).setCell f _).setCell f _).setCell f _
abbrev nE:Array Value:=#[.slice none 0 0,.int .i64 0,.int .i64 0,.string ⟨#[]⟩,.int .i64 0]
theorem Jv{ok ok':nP}(n:No)(a:oO n)(d:Value)(l:List It)(c:Value)(g:List Gv)(w:World)(b:aH sK w ok' d l)(h:aH jM w ok c g)(h1:n.op=1)(i:l=[]):Calls prog 272 #[jJ n,d,c] w (pD (iO g n l) w):=by
 obtain⟨o,gc,rfl,_⟩:=h.slice;obtain⟨la,lc,rfl,p⟩:=b.slice;have j:=aA (aC (aB w (.cells (iR n) 294)) (aB _ (.cells nE 352)));have k:=aA (aE (aK w (.cells (iR n) 294) _ rfl) (aB (w.alloc (.cells (iR n) 294)) (.cells nE 352)));have m:Hid (((w.alloc (.cells (iR n) 294)).alloc (.cells nE 352)).heap[w.heap.size+1]? =some (.cells nE 352 (0,0))):=aA (aK (w.alloc (.cells (iR n) 294)) (.cells nE 352) _ qs);subst i;have d1:(n.op==1)=true:=bQ.2 h1;have f:Hid (iO g n []=jG n.val 0):=aA (iP h1);have e:=aA a.2.1;rw[f.o];unfold jJ;clear b h a h1;go_enter func272,ntmps272;go_wp2;refine bR (.agg #[.slice none 0 0,.int .i64 n.val.1,.int .i64 n.val.2.1,.string n.val.2.2,.int .i64 0]) ?_;exact lX rfl e.o oJ (aC (aB _ _) (aB _ _))
theorem Jw{ok ok':nP}(n:No)(C:oO n)(t:Value)(l:List It)(s:Value)(g:List Gv)(w:World)(q:aH sK w ok' t l)(h:aH jM w ok s g)(h1:n.op=2)(E:l=[]):Calls prog 272 #[jJ n,t,s] w (pD (iO g n l) w):=by
 obtain⟨R,gc,rfl,_⟩:=h.slice;obtain⟨la,lc,rfl,S⟩:=q.slice;have m:=aA (aC (aB w (.cells (iR n) 294)) (aB _ (.cells nE 352)));have c:=aA (aE (aK w (.cells (iR n) 294) _ rfl) (aB (w.alloc (.cells (iR n) 294)) (.cells nE 352)));have d:Hid (((w.alloc (.cells (iR n) 294)).alloc (.cells nE 352)).heap[w.heap.size+1]? =some (.cells nE 352 (0,0))):=aA (aK (w.alloc (.cells (iR n) 294)) (.cells nE 352) _ qs);subst E;have d1:(n.op==1)=false:=bN.2 qo;have d2:(n.op==2)=true:=bQ.2 h1;have p:Hid (iO g n []=⟨(rJ g n.aDg).1,bD,(rJ g n.aDg).2⟩):=aA (iN qo);have a:=aA (TI _ g n.aDg _ (h.on bZ m.o));rw[p.o];unfold jJ;unfold sZ oF at a;have o:Hid (bK (rJ g n.aDg).2):=aA (by unfold rJ;split;exact(by unfold bK;decide);exact oJ);generalize rJ g n.aDg=r at *;obtain⟨bag,B⟩:=r;simp only at a o;clear q h C h1 p;go_enter func272,ntmps272;go_wp2_with fail;refine a.o.mono ?_;rintro e w1 ⟨v,rfl,j,f⟩;obtain⟨z,A,rfl,_⟩:=j.slice;have y:=aA (j.more bH (ok':=fun b=>w.heap.size<=b/\b≠w.heap.size+1) (fun b i=>by simp only[World.size_alloc] at i;exact⟨qo,qo⟩));have x:=qB m f;replace c:=qK c f;obtain⟨⟨F,G,H,I,J,K,L⟩,_⟩:=bJ c.o;have T:=aD c.o;replace d:=qK d f;obtain⟨⟨M,N,O,P,Q⟩,_⟩:=cP d.o;have U:=aD d.o;clear j f a;go_wp2;refine bR (.agg #[.slice z bag.length A,.int .i64 0,.int .i64 0,.string ⟨#[]⟩,.int .i64 B]) ?_;refine⟨_,rfl,⟨?_,jZ,o.o⟩,uC x.o (Nat.le_succ _)⟩;exact aH.more bH (aH.aC0 bH y.o (Ef.mono fun k _ D=>D.2)) (fun b i=>i.1)
theorem Jx{w:World}{ok:nP}{v:Value}{l:List It}(h:aH sK w ok v l){k:Nat}(b:k<l.length):cS l[k].val/\bK l[k].err/\l[k].bag.length<=1000000:=by
 obtain⟨a,c,rfl,_⟩:=h.slice;obtain⟨b',i,r,e,_,f,⟨vb,rfl,hp⟩,g⟩:=aH.at iI h b qe;obtain⟨_,_,_,d⟩:=hp.1.slice;exact⟨hp.2.1,hp.2.2,d⟩
theorem tN{w:World}{ok:nP}{b off n c k:Nat}{l:List It}(h:aH sK w ok (.slice (some ⟨b,off,none⟩) n c) l)(m:k<l.length):
 ∃d f,w.cell? ⟨b,off+k * 5,none⟩=some (.slice d l[k].bag.length f)/\w.cell? ⟨b,off+k * 5+1,none⟩=some (.int .i64 l[k].val.1)/\w.cell? ⟨b,off+k * 5+2,none⟩=some (.int .i64 l[k].val.2.1)/\w.cell? ⟨b,off+k * 5+3,none⟩=some (.string l[k].val.2.2)/\w.cell? ⟨b,off+k * 5+4,none⟩=some (.int .i64 l[k].err)/\
  BQ w ok l[k] (.slice d l[k].bag.length f)/\b<w.heap.size:=by
 obtain⟨b',o,r,e,_,j,⟨vb,rfl,hp⟩,a⟩:=aH.at iI h m qe;injection e with e;injection e with g i _;subst g i;obtain⟨d,f,rfl,_⟩:=hp.1.slice;exact⟨d,f,by have:=a 0 _ rfl;rwa [Nat.add_zero] at this,a 1 _ rfl,a 2 _ rfl,a 3 _ rfl,a 4 _ rfl,hp,j⟩
theorem AQ{w:World}{ok:nP}{a:oD}{n c:Nat}{l:List It}(h:aH sK w ok (.slice a n c) l)(d:0<l.length):∃b off,a=some ⟨b,off,none⟩:=by
 obtain⟨b',f,r,e,_⟩:=aH.at iI h d qe;exact⟨_,_,e⟩
theorem Pp(l:List It)(k:Nat)(a:k<l.length):(l.take k).map (·.val)++[l[k].val]=(l.take (k+1)).map (·.val):=by
 rw[List.take_succ_eq_append_getElem a,List.map_append];rfl
def xM(n:No)(l:List It):Prop:=(n.op=3/\l.length=1)\/(n.op=4/\l.length=1)\/(n.op=5/\l.length=2)\/((n.op=11/\l.length=1)\/(6<=n.op/\n.op<=13/\n.op≠11/\l.length=2))
def xN(n:No)(l:List It):Prop:=(n.op=12\/n.op=13)/\∃a b,l=[a,b]/\(a.is (n.op - 12)=true\/b.is (n.op - 12)=true)
theorem YH{g:List Gv}{n:No}{l:List It}(h:xN n l):iO g n l=jG (cI (decide (n.op=13))) 0:=by
 obtain⟨h1,a,b,rfl,h2⟩:=h;show (if (n.op=12\/n.op=13)/\(a.is (n.op - 12)=true\/b.is (n.op - 12)=true) then jG (cI (decide (n.op=13))) 0 else _)=_;rw[iP ⟨h1,h2⟩]
theorem uD{g:List Gv}{n:No}{a:It}:iO g n [a]=if a.err≠0 then jG bD a.err else if n.op=3 then (match a.bag with | [v]=>jG v 0|_=>jG bD 4) else if n.op=4 then jG (2,a.bag.length,ByteArray.empty) 0 else jG (nS n.op a.val).1 (nS n.op a.val).2:=rfl
theorem DV{g:List Gv}{n:No}{a b:It}(h:¬xN n [a,b]):iO g n [a,b]=if a.err≠0 then jG bD a.err else if b.err≠0 then jG bD b.err else if n.op=5 then jG (cI (a.bag.any (fun v=>decide (v=b.val)))) 0 else jG (dJ n.op a.val b.val).1 (dJ n.op a.val b.val).2:=by
 show (if (n.op=12\/n.op=13)/\(a.is (n.op - 12)=true\/b.is (n.op - 12)=true) then _ else _)=_;rw[iN (fun h2=>h ⟨h2.1,a,b,rfl,h2.2⟩)]
theorem PM{g:List Gv}{n:No}{l:List It}(d:l.length=1\/l.length=2)(he:¬xN n l){k:Nat}(c:k<l.length)(h0:∀i (e:i<l.length),i<k->l[i].err=0)(h1:l[k].err≠0):iO g n l=jG bD l[k].err:=by
 match l,d with
 | [a],_=>
   obtain rfl:k=0:=by simp at c;omega
   rw[uD,iP (show a.err≠0 from h1)];rfl
 | [a,b],_=>
   rw[DV he]
   match k,c with
   |0,_=>rw[iP (show a.err≠0 from h1)];rfl
   |1,_=>
    have h2:a.err=0:=h0 0 qs qo;rw[iN (fun h=>h h2),iP (show b.err≠0 from h1)];rfl
theorem Eg{g:List Gv}{n:No}{l:List It}(d:(n.op=11/\l.length=1)\/(6<=n.op/\n.op<=13/\n.op≠11/\l.length=2))(he:¬xN n l)(h0:∀i (e:i<l.length),l[i].err=0):iO g n l=jG (vF n.op (l.map (·.val))).1 (vF n.op (l.map (·.val))).2:=by
 rcases d with ⟨f,c⟩|⟨h6,h13,h11,c⟩
 .match l,c with
  | [a],_=>
    rw[uD,iN (fun h=>h (h0 0 qs)),iN qo,iN qo];rfl
 .match l,c with
  | [a,b],_=>
    rw[DV he,iN (fun h=>h (h0 0 qs)),iN (fun h=>h (h0 1 qs)),iN qo];rfl
theorem QCO{p:Prop}(h:p:=by
 exact⟨0,none,0,qo,rfl,rfl,aA (fun i _ h=>absurd h qo),aA aM.nil,aA (Below.refl _ _)⟩):p:=h
theorem QBb{p:Prop}(h:p:=by
 try clear NB0 NB1 NB2 NB3 NB4 NB5 NB6 zNB
 replace NB:=qK NB hb_;obtain⟨⟨NB0,NB1,NB2,NB3,NB4,NB5,NB6⟩,_⟩:=bJ NB.o;have zNB:=aD NB.o
 try clear RB0 RB1 RB2 RB3 RB4 zRB
 replace RB:=qK RB hb_;obtain⟨⟨RB0,RB1,RB2,RB3,RB4⟩,_⟩:=cP RB.o;have zRB:=aD RB.o;clear hb_ HT;go_wp2;refine bR (.agg #[.slice none 0 0,.int .i64 1,.int .i64 n1,.string ByteArray.empty,.int .i64 0]) ?_;exact lX rfl HG1.o oJ (uC HB3.o (Nat.le_succ _))):p:=h
theorem QAB{p:Prop}(h:p:=by
 obtain⟨⟨u0,u1,u2,u3,u4⟩,_⟩:=cP RB2.o;obtain⟨⟨v0,v1,v2,v3,v4,v5,v6⟩,_⟩:=bJ NB2.o;have zu:=aD RB2.o;have HF:=aA (Jt n.op _ (l.map (·.val)) wr (HG9.o.sl (by rw[List.length_map];omega) (fun _=>True) (fun _ _ _=>trivial) (fun _ _ _=>trivial) bH) (by rw[List.length_map];exact hca));have HV2:=aA (Eg (g:=g) hca HEA.o HQ9.o);have HGC:=aA (Ju n.op (l.map (·.val)));unfold eA dD at HF;generalize vF n.op (l.map (·.val))=r at *;obtain⟨⟨r0,r1,r2⟩,en⟩:=r;simp only at HF;clear hca;go_wp2_with fail;refine HF.o.mono ?_;rintro e w2 ⟨rfl,hb_⟩;have HB2:=qB HBT hb_;clear u0 u1 u2 u3 u4 v0 v1 v2 v3 v4 v5 v6 zu;replace RB2:=qK RB2 hb_;obtain⟨⟨RB20,RB21,RB22,RB23,RB24⟩,_⟩:=cP RB2.o;have zRB2:=aD RB2.o;clear hb_ HF;go_wp2;refine bR (.agg #[.slice none 0 0,.int .i64 r0,.int .i64 r1,.string r2,.int .i64 en]) ?_;rw[HRES.o,HV2.o];exact lX rfl HGC.o.1 HGC.o.2 (aC (uC HB2.o (Nat.le_succ _)) (aB _ _))):p:=h
theorem QAf{p:Prop}(h:p:=by
 have hk1:(k:Int)<(l.length:Int):=qo;obtain⟨ba,bc,x0,x1,x2,x3,x4,_,hbl⟩:=tN (HL.o.on iI HBT.o) hlt;have hgd:=Jx HL.o hlt;have HQ2:=aA (fun h1=>HER.o k hlt HQ.o h1);have HQ3:Hid (l[k].err=0->∀i (hi:i<l.length),i<k+1->l[i].err=0):=aA (fun h1 i hi h=>by
  rcases Nat.lt_or_ge i k with h2|h2
  .exact HQ.o i hi h2
  .obtain rfl:i=k:=qo;exact h1)
 have HHV:=aA (Pp l k hlt);have HGD:=aA hgd;clear hgd HQ;generalize hx:l[k]=x at *;clear hx;by_cases he:x.err=0
 .have d:(x.err != 0)=false:=by rw[he];rfl
  have HQ4:=aA (HQ3.o he);have HB2:=qB HB (aB wr (.cells #[.slice ba x.bag.length bc,.int .i64 x.val.1,.int .i64 x.val.2.1,.string x.val.2.2,.int .i64 x.err] 352));have HB3:=qB HB2 (aB _ (.cells #[.int .i64 x.val.1,.int .i64 x.val.2.1,.string x.val.2.2] 55));have HNE:=aA (aK (wr.alloc (.cells #[.slice ba x.bag.length bc,.int .i64 x.val.1,.int .i64 x.val.2.1,.string x.val.2.2,.int .i64 x.err] 352)) (.cells #[.int .i64 x.val.1,.int .i64 x.val.2.1,.string x.val.2.2] 55) (wr.heap.size+1) qs);have HG2:=aA (HG.o.on bH (aC (aB wr (.cells #[.slice ba x.bag.length bc,.int .i64 x.val.1,.int .i64 x.val.2.1,.string x.val.2.2,.int .i64 x.err] 352)) (aB _ (.cells #[.int .i64 x.val.1,.int .i64 x.val.2.1,.string x.val.2.2] 55))));have HLK:=aA (show ((l.take k).map (·.val)).length=k by rw[List.length_map,List.length_take];omega);have HSZ:=aA HB.o.size;have HLL:=aA hll;clear he HQ2 HQ3 HG;go_wp2_with (at_builtin;refine cC (base:=W.heap.size) Xr bH rfl (.tmp 67) (.tmp 70) rfl _ ((l.take k).map (·.val)) rfl HG2.o (wr.heap.size+1) 1 _ _ _ x.val rfl HNE.o ⟨rfl,HGD.o.1⟩ (by rw[HLK.o];have:=HLL.o;omega) qo (by have:=HSZ.o;simp only[World.size_alloc];omega) ?_;intro l' hl' A' c2 w9 hG hgr hat';have HG9:=aA hG;have HB9:=aA (HG2.o.below HB3.o hgr (lR _) (by have:=HSZ.o;simp only[World.size_alloc];omega));have HL9:=aA hl'.o;clear hG hgr hat' hl')
  have e9:l'.length=k+1:=by rw[HL9.o,aL,HLK.o];rfl
  rw[e9] at HG9 ⊢;go_roundw
  case rel=>exact⟨k+1,A',c2,qo,by go_num,rfl,HQ4,aA (by have:=HG9.o;rw[HL9.o,HHV.o] at this;exact this),HB9⟩
  case measure=>simp[intOf];omega
 .have d:(x.err != 0)=true:=bne_iff_ne.2 he;have HX:=aA (HQ2.o he);have RB2:=qK RB HB.o;obtain⟨⟨u0,u1,u2,u3,u4⟩,_⟩:=cP RB2.o;have zu:=aD RB2.o;clear he HQ2 HQ3;go_wp2;refine bR (.agg #[.slice none 0 0,.int .i64 0,.int .i64 0,.string ⟨#[]⟩,.int .i64 x.err]) ?_;rw[HX.o];exact lX rfl jZ HGD.o.2.1 (aC (uC HBT.o (Nat.le_succ _)) (aB _ _))):p:=h
theorem Jy{ok ok':nP}(n:No)(V:oO n)(G:Value)(l:List It)(F:Value)(g:List Gv)(w:World)(f:aH sK w ok' G l)(h:aH jM w ok F g)(he:xN n l):Calls prog 272 #[jJ n,G,F] w (pD (iO g n l) w):=by
 obtain⟨Z,gc,rfl,_⟩:=h.slice;obtain⟨la,lc,rfl,aa⟩:=f.slice;have t:=aA (aC (aB w (.cells (iR n) 294)) (aB _ (.cells nE 352)));have NB:=aA (aE (aK w (.cells (iR n) 294) _ rfl) (aB (w.alloc (.cells (iR n) 294)) (.cells nE 352)));have RB:Hid (((w.alloc (.cells (iR n) 294)).alloc (.cells nE 352)).heap[w.heap.size+1]? =some (.cells nE 352 (0,0))):=aA (aK (w.alloc (.cells (iR n) 294)) (.cells nE 352) _ qs);have z:=aA (YH (g:=g) he);obtain⟨C,x,y,rfl,d⟩:=he;have v:=aA f;obtain⟨b,off,rfl⟩:=AQ f qs;obtain⟨n1,i⟩:∃n1:Int,(if decide (n.op=13)=true then (1:Int) else 0)=n1:=⟨_,rfl⟩;have HT:=aA (fun w'=>GQ (decide (n.op=13)) n1 i w');have HG1:Hid (cS (1,n1,ByteArray.empty)):=aA (by rw[<-i];exact nR (decide (n.op=13)));have A:Hid (iO g n [x,y]=jG (1,n1,ByteArray.empty) 0):=aA (by rw[z.o];unfold cI;rw[i]);rw[A.o];obtain⟨m,hm⟩:=xE (n.op - 12);rw[<-hm] at d;have em:(m==1)=decide (n.op=13):=by rw[Bool.eq_iff_iff];simp;omega
 have U:IntKind.i64.wrap (n.op - 12)=m:=by rw[hm];exact IntWalk.i64_in _ qo
 have d1:(n.op==1)=false:=bN.2 qo;have d2:(n.op==2)=false:=bN.2 qo;have Y:wrap64 (n.op - 12)=m:=by rw[<-IntWalk.i64_left];exact U
 have T:Hid (((n.op==12)=true)\/((n.op==12)=false/\(n.op==13)=true)):=aA (by
  rcases C with h|h
  .exact .inl (bQ.2 h)
  .exact .inr ⟨bN.2 qo,bQ.2 h⟩)
 obtain⟨tb,E⟩:∃tb,decide (n.op=13)=tb:=⟨_,rfl⟩;rw[E] at HT em;unfold aO at HT;have a:=aA (fun o r w'=>tC o x.bag.length r x.bag x.val x.err m w');have c:=aA (fun o r w'=>tC o y.bag.length r y.bag y.val y.err m w');unfold aO at a c;have ex:It.is ⟨x.bag,x.val,x.err⟩ m=x.is m:=rfl;have B:It.is ⟨y.bag,y.val,y.err⟩ m=y.is m:=rfl;rw[ex] at a;rw[B] at c;unfold jJ;obtain⟨p,hp⟩:∃p,x.is m=p:=⟨_,rfl⟩;obtain⟨q,D⟩:∃q,y.is m=q:=⟨_,rfl⟩;rw[hp] at a d;rw[D] at c d;have S:=aA d;clear f h V C hm d ex B hp D E i z A
 rcases T.o with d3|⟨d3,d4⟩
 all_goals
  obtain⟨xa,xc,H,I,J,K,L,_,s⟩:=tN (k:=0) (v.o.on iI t.o) qs;simp only[Nat.zero_mul,Nat.add_zero,List.getElem_cons_zero] at H I J K L;go_enter func272,ntmps272;go_wp2_with fail;refine(a.o _ _ _).mono ?_;rintro e w1 ⟨rfl,hb_⟩;have j:=qB t hb_;replace NB:=qK NB hb_;obtain⟨⟨NB0,NB1,NB2,NB3,NB4,NB5,NB6⟩,_⟩:=bJ NB.o;have zNB:=aD NB.o;replace RB:=qK RB hb_;obtain⟨⟨RB0,RB1,RB2,RB3,RB4⟩,_⟩:=cP RB.o;have zRB:=aD RB.o;clear hb_ a H I J K L s
  cases p
  .have W:q=true:=by rcases S.o with h|h;cases h;exact h
   subst W;obtain⟨ya,yc,M,N,O,P,Q,_,s⟩:=tN (k:=1) (v.o.on iI j.o) qs;simp only[Nat.one_mul,List.getElem_cons_succ,List.getElem_cons_zero] at M N O P Q;go_wp2_with fail;refine(c.o _ _ _).mono ?_;rintro e w2 ⟨rfl,hb_⟩;have R:=qB j hb_
   try clear NB0 NB1 NB2 NB3 NB4 NB5 NB6 zNB
   replace NB:=qK NB hb_;obtain⟨⟨NB0,NB1,NB2,NB3,NB4,NB5,NB6⟩,_⟩:=bJ NB.o;have zNB:=aD NB.o
   try clear RB0 RB1 RB2 RB3 RB4 zRB
   replace RB:=qK RB hb_;obtain⟨⟨RB0,RB1,RB2,RB3,RB4⟩,_⟩:=cP RB.o;have zRB:=aD RB.o;clear hb_ c M N O P Q s;go_wp2_with fail;refine(HT.o _).mono ?_;rintro e X ⟨rfl,hb_⟩;have HB3:=qB R hb_;exact QBb
  .go_wp2_with fail;refine(HT.o _).mono ?_;rintro e X ⟨rfl,hb_⟩;have HB3:=qB j hb_;exact QBb
theorem Jz{ok ok':nP}(n:No)(U:oO n)(vl:Value)(l:List It)(vg:Value)(g:List Gv)(w:World)(t:aH sK w ok' vl l)(h:aH jM w ok vg g)(z:n.op=12\/n.op=13)(he:¬xN n l)(j:l.length=2):Calls prog 272 #[jJ n,vl,vg] w (pD (iO g n l) w):=by
 obtain⟨ga,gc,rfl,_⟩:=h.slice;obtain⟨la,lc,rfl,hll⟩:=t.slice;have c:=aA (aC (aB w (.cells (iR n) 294)) (aB _ (.cells nE 352)));have a:=aA (aE (aK w (.cells (iR n) 294) _ rfl) (aB (w.alloc (.cells (iR n) 294)) (.cells nE 352)));have RB:Hid (((w.alloc (.cells (iR n) 294)).alloc (.cells nE 352)).heap[w.heap.size+1]? =some (.cells nE 352 (0,0))):=aA (aK (w.alloc (.cells (iR n) 294)) (.cells nE 352) _ qs);have HEA:=aA he;have hca:(n.op=11/\l.length=1)\/(6<=n.op/\n.op<=13/\n.op≠11/\l.length=2):=qo;have aa:=aA hca;have Z:l.length=1\/l.length=2:= .inr j;have HL:=aA t;have L:0<l.length:=qo;have V:1<l.length:=qo;obtain⟨b,off,rfl⟩:=AQ t L;have HER:=aA (fun k (f:k<l.length) h0 h1=>PM (g:=g) Z he f h0 h1);obtain⟨af,M⟩:=xE (iO g n l);have HRES:=aA M;rw[<-M] at HER ⊢;obtain⟨m,hm⟩:=xE (n.op - 12);have S:IntKind.i64.wrap (n.op - 12)=m:=by rw[hm];exact IntWalk.i64_in _ qo
 have ad:wrap64 (n.op - 12)=m:=by rw[<-IntWalk.i64_left];exact S
 have d1:(n.op==1)=false:=bN.2 qo;have d2:(n.op==2)=false:=bN.2 qo;have R:Hid (((n.op==12)=true)\/((n.op==12)=false/\(n.op==13)=true)):=aA (by
  rcases z with h|h
  .exact .inl (bQ.2 h)
  .exact .inr ⟨bN.2 qo,bQ.2 h⟩)
 have P:Hid (∀(f:0<l.length),l[0].is m=false):=aA (fun f=>by
  rw[hm];refine Bool.eq_false_iff.2 (fun h=>he ⟨z,?_⟩)
  match l,j with
  | [x,y],_=>exact⟨x,y,rfl,.inl h⟩)
 have Q:Hid (∀(f:1<l.length),l[1].is m=false):=aA (fun f=>by
  rw[hm];refine Bool.eq_false_iff.2 (fun h=>he ⟨z,?_⟩)
  match l,j with
  | [x,y],_=>exact⟨x,y,rfl,.inr h⟩)
 obtain⟨xa,xc,x0,x1,x2,x3,x4,_,hbl⟩:=tN (k:=0) (HL.o.on iI c.o) L;have o:=aA (fun w'=>tC xa l[0].bag.length xc l[0].bag l[0].val l[0].err m w');have p:=aA (fun ba bc w'=>tC ba l[1].bag.length bc l[1].bag l[1].val l[1].err m w');unfold aO at o p;have ex:It.is ⟨l[0].bag,l[0].val,l[0].err⟩ m=false:=P.o L;have T:It.is ⟨l[1].bag,l[1].val,l[1].err⟩ m=false:=Q.o V;rw[ex] at o;rw[T] at p;simp only[Nat.zero_mul,Nat.add_zero] at x0 x1 x2 x3 x4;have ag:(0:Int)<(l.length:Int):=qo;have ah:(1:Int)<(l.length:Int):=qo;have HV:=aA U;have ae:=aA j;unfold jJ;clear h hca he z Z M hm U t ex T P Q j;generalize hX:l[0]=X at *;have ab:=aA (show ∃y,l[1]=y from ⟨_,rfl⟩)
 rcases R.o with d3|⟨d3,d4⟩
 all_goals
  go_enter func272,ntmps272;go_wp2_with fail;refine(o.o _).mono ?_;rintro e w1 ⟨rfl,hb_⟩;have A:=qB c hb_;replace a:=qK a hb_;obtain⟨⟨B,C,NB2,D,E,F,G⟩,_⟩:=bJ a.o;have N:=aD a.o;replace RB:=qK RB hb_;obtain⟨⟨H,I,RB2,J,K⟩,_⟩:=cP RB.o;have O:=aD RB.o;clear hb_ o x0 x1 x2 x3 x4 hbl;obtain⟨ya,yc,y0,y1,y2,y3,y4,_,hbl⟩:=tN (k:=1) (HL.o.on iI A.o) V;simp only[Nat.one_mul] at y0 y1 y2 y3 y4;generalize hY:l[1]=Y at *;go_wp2_with fail;refine(p.o _ _ _).mono ?_;rintro e W ⟨rfl,hb_⟩;clear c;have c:=qB A hb_
  try clear B C NB2 D E F G N
  replace a:=qK a hb_;obtain⟨⟨B,C,NB2,D,E,F,G⟩,_⟩:=bJ a.o;have N:=aD a.o
  try clear H I RB2 J K O
  replace RB:=qK RB hb_;obtain⟨⟨H,I,RB2,J,K⟩,_⟩:=cP RB.o;have O:=aD RB.o;clear hb_ p y0 y1 y2 y3 y4 hbl hX hY ab H I RB2 J K O B C NB2 D E F G N A R d1 d2 S ad;go_wp2;go_loopw [10,57] (fun v i wr=>∃(k:Nat) (q:oD) (s:Nat),k<=l.length/\i=.int .i64 k/\v=.slice q k s/\Hid (∀i (hi:i<l.length),i<k->l[i].err=0)/\Hid (aM VR 3 55 wr W.heap.size (fun _=>True) (.slice q k s) ((l.take k).map (·.val)))/\Hid (Below W.heap.size W wr)) (fun _ i _=>l.length - (intOf i).toNat)
  case atStart=>exact QCO
  case round=>
   obtain⟨k,q,s,f,rfl,rfl,HQ,HG,HB⟩:=hrel;have HBT:=aA (c.o.trans (HB.o.mono c.o.size));by_cases hlt:k<l.length
   .exact QAf
   .have hk1:¬(k:Int)<(l.length:Int):=qo;obtain rfl:k=l.length:=qo;have HQ9:=aA (fun i (hi:i<l.length)=>HQ.o i hi hi);have HG9:=aA (by have h:=HG.o;rw[List.take_of_length_le (lR _)] at h;exact h:aM VR 3 55 wr W.heap.size (fun _=>True) (.slice q l.length s) (l.map (·.val)));have RB2:=qK RB HB.o;have NB2:=qK a HB.o;clear HQ HG HER;have hca:=aa.o;have d5:(n.op==3)=false:=bN.2 qo;have d6:(n.op==4)=false:=bN.2 qo;have d7:(n.op==5)=false:=bN.2 qo;exact QAB
theorem Ka{ok ok':nP}(n:No)(U:oO n)(vl:Value)(l:List It)(vg:Value)(g:List Gv)(w:World)(z:aH sK w ok' vl l)(h:aH jM w ok vg g)(I:n.op≠12/\n.op≠13)(he:¬xN n l)(o:xM n l):Calls prog 272 #[jJ n,vl,vg] w (pD (iO g n l) w):=by
 obtain⟨ga,gc,rfl,_⟩:=h.slice;obtain⟨la,lc,rfl,hll⟩:=z.slice;have D:=aA (aC (aB w (.cells (iR n) 294)) (aB _ (.cells nE 352)));have Q:=aA (aE (aK w (.cells (iR n) 294) _ rfl) (aB (w.alloc (.cells (iR n) 294)) (.cells nE 352)));have RB:Hid (((w.alloc (.cells (iR n) 294)).alloc (.cells nE 352)).heap[w.heap.size+1]? =some (.cells nE 352 (0,0))):=aA (aK (w.alloc (.cells (iR n) 294)) (.cells nE 352) _ qs);have HEA:=aA he;have HC:=aA o;have B:l.length=1\/l.length=2:=by unfold xM at o;omega
 have af:=aA B;have HL:=aA z;obtain⟨b,off,rfl⟩:=AQ z qo;have HER:=aA (fun k (X:k<l.length) h0 h1=>PM (g:=g) B he X h0 h1);have d1:(n.op==1)=false:=bN.2 (by unfold xM at o;omega);have d2:(n.op==2)=false:=bN.2 (by unfold xM at o;omega);have d3:(n.op==12)=false:=bN.2 I.1;have d4:(n.op==13)=false:=bN.2 I.2;obtain⟨ag,J⟩:=xE (iO g n l);have HRES:=aA J;rw[<-J] at HER ⊢;obtain⟨W0,L⟩:=xE ((w.alloc (.cells (iR n) 294)).alloc (.cells nE 352));rw[<-L] at D Q RB;have P:=aA L;have HV:=aA U;have ae:=B;unfold jJ;clear h o he B J L U z ae I;go_enter func272,ntmps272;go_wp2;rw[<-P.o];clear P;obtain⟨W,hW⟩:=xE W0;subst hW;go_loopw [10,57] (fun v i wr=>∃(k:Nat) (q:oD) (s:Nat),k<=l.length/\i=.int .i64 k/\v=.slice q k s/\Hid (∀i (hi:i<l.length),i<k->l[i].err=0)/\Hid (aM VR 3 55 wr W.heap.size (fun _=>True) (.slice q k s) ((l.take k).map (·.val)))/\Hid (Below W.heap.size W wr)) (fun _ i _=>l.length - (intOf i).toNat)
 case atStart=>exact QCO
 case round=>
  obtain⟨k,q,s,X,rfl,rfl,HQ,HG,HB⟩:=hrel;have HBT:=aA (D.o.trans (HB.o.mono D.o.size));by_cases hlt:k<l.length
  .exact QAf
  .have hk1:¬(k:Int)<(l.length:Int):=qo;obtain rfl:k=l.length:=qo;have HQ9:=aA (fun i (hi:i<l.length)=>HQ.o i hi hi);have HG9:=aA (by have h:=HG.o;rw[List.take_of_length_le (lR _)] at h;exact h:aM VR 3 55 wr W.heap.size (fun _=>True) (.slice q l.length s) (l.map (·.val)));have RB2:=qK RB HB.o;have NB2:=qK Q HB.o;clear HQ HG HER;have T:=HC.o;unfold xM at T
   rcases T with ⟨h3,c⟩|⟨h3,c⟩|⟨h3,c⟩|hca
   .obtain⟨x,rfl⟩:=List.length_eq_one_iff.1 c;have G:(n.op==3)=true:=bQ.2 h3;obtain⟨ba,bc,x0,x1,x2,x3,x4,hp,hbl⟩:=tN (k:=0) (HL.o.on iI HBT.o) qs;simp only[Nat.zero_mul,Nat.add_zero,List.getElem_cons_zero] at x0 x1 x2 x3 x4 hp;have a:=HQ9.o 0 qs;obtain⟨⟨u0,u1,u2,u3,u4⟩,_⟩:=cP RB2.o;obtain⟨⟨v0,v1,v2,v3,v4,v5,v6⟩,_⟩:=bJ NB2.o;have zu:=aD RB2.o;by_cases m:x.bag.length=1
    .obtain⟨v,p⟩:=List.length_eq_one_iff.1 m;have HV2:Hid (iO g n [x]=jG v 0):=aA (by rw[uD,iN (fun h=>h a),iP h3,p]);have C:=hp.1;rw[p] at C x0;obtain⟨b2,ai,rfl,ah,V,_⟩:=KM C;obtain⟨M,N,O⟩:=EW C;have ad:=aA V;have Y:[v].length=1:=rfl;rw[Y] at x0;clear C V p m hp a h3 c Y;go_wp2;refine bR (.agg #[.slice none 0 0,.int .i64 v.1,.int .i64 v.2.1,.string v.2.2,.int .i64 0]) ?_;rw[HRES.o,HV2.o];exact lX rfl ad.o oJ (uC HBT.o (Nat.le_succ _))
    .have HV2:Hid (iO g n [x]=jG bD 4):=aA (by
      rw[uD,iN (fun h=>h a),iP h3];split
      .rename_i v p;rw[p] at m;exact absurd rfl m
      .rfl)
     have H:((x.bag.length:Int) != 1)=true:=bne_iff_ne.2 qo;clear hp a h3 c m;go_wp2;refine bR (.agg #[.slice none 0 0,.int .i64 0,.int .i64 0,.string ⟨#[]⟩,.int .i64 4]) ?_;rw[HRES.o,HV2.o];exact lX rfl jZ (by unfold bK;decide) (uC HBT.o (Nat.le_succ _))
   .obtain⟨x,rfl⟩:=List.length_eq_one_iff.1 c;have G:(n.op==3)=false:=bN.2 qo;have H:(n.op==4)=true:=bQ.2 h3;obtain⟨ba,bc,x0,x1,x2,x3,x4,hp,hbl⟩:=tN (k:=0) (HL.o.on iI HBT.o) qs;simp only[Nat.zero_mul,Nat.add_zero,List.getElem_cons_zero] at x0 x1 x2 x3 x4 hp;have a:=HQ9.o 0 qs;obtain⟨_,_,_,S⟩:=hp.1.slice;have aa:=aA S;obtain⟨⟨u0,u1,u2,u3,u4⟩,_⟩:=cP RB2.o;obtain⟨⟨v0,v1,v2,v3,v4,v5,v6⟩,_⟩:=bJ NB2.o;have zu:=aD RB2.o;have HV2:Hid (iO g n [x]=jG (2,x.bag.length,ByteArray.empty) 0):=aA (by rw[uD,iN (fun h=>h a),iN qo,iP h3]);clear hp a h3 c S;go_wp2;refine bR (.agg #[.slice none 0 0,.int .i64 2,.int .i64 x.bag.length,.string ⟨#[]⟩,.int .i64 0]) ?_;rw[HRES.o,HV2.o];exact lX rfl ⟨KZ,show bK (x.bag.length:Int) by have:=aa.o;unfold bK;omega,show ByteArray.empty.size<=cQ by decide⟩ oJ (uC HBT.o (Nat.le_succ _))
   .obtain⟨x,y,rfl⟩:∃x y,l=[x,y]:=by
     match l,c with
     | [x,y],_=>exact⟨x,y,rfl⟩
    have G:(n.op==3)=false:=bN.2 qo;have H:(n.op==4)=false:=bN.2 qo;have e7:(n.op==5)=true:=bQ.2 h3;obtain⟨ba,bc,x0,x1,x2,x3,x4,hp,hbl⟩:=tN (k:=0) (HL.o.on iI HBT.o) qs;obtain⟨ya,yc,M,N,O,y3,y4,_,_⟩:=tN (k:=1) (HL.o.on iI HBT.o) qs;simp only[Nat.zero_mul,Nat.one_mul,Nat.add_zero,List.getElem_cons_zero,List.getElem_cons_succ] at x0 x1 x2 x3 x4 hp M N O y3 y4;have a:=HQ9.o 0 qs;have Z:=HQ9.o 1 qs;obtain⟨⟨u0,u1,u2,u3,u4⟩,_⟩:=cP RB2.o;obtain⟨⟨v0,v1,v2,v3,v4,v5,v6⟩,_⟩:=bJ NB2.o;have zu:=aD RB2.o;obtain⟨t,K⟩:∃t:Bool,x.bag.any (fun v=>decide (v=y.val))=t:=⟨_,rfl⟩;obtain⟨f,A⟩:∃f:Int,(if t=true then (1:Int) else 0)=f:=⟨_,rfl⟩;have HV2:Hid (iO g n [x,y]=jG (1,f,ByteArray.empty) 0):=aA (by
     rw[DV HEA.o,iN (fun h=>h a),iN (fun h=>h Z),iP h3,K];unfold cI;rw[A])
    have ab:Hid (cS (1,f,ByteArray.empty)):=aA (by rw[<-A];exact nR t);have E:=aA (fun w'=>GQ t f A w');have j:=aA (Vn _ x.bag y.val wr.drew (hp.1.aC0 bH ((aJ (ok:=ok') (Below.refl wr.heap.size wr)).trans ⟨rfl,rfl,rfl,lR _,fun _ _ _=>rfl⟩)));unfold aO at E j;unfold dD at j;rw[K] at j;clear hp a Z h3 c K A;go_wp2;refine qJ 8 (by kernel_rfl) (by kernel_rfl) ?_;simp only[List.take_succ_cons,List.take_zero,List.drop_succ_cons,List.drop_zero]
    repeat still_step
    refine wpStill_nil ?_;go_wp2_with fail;refine j.o.mono ?_;rintro e w2 ⟨rfl,hb_⟩;have HB2:=aA (aC HBT.o.drew hb_);have F:=aA (aE (show (wr.drew).heap[w.heap.size+1]? =_ from RB2.o) hb_);clear hb_ j x0 x1 x2 x3 x4 M N O y3 y4 u0 u1 u2 u3 u4 v0 v1 v2 v3 v4 v5 v6 zu;obtain⟨⟨u0,u1,u2,u3,u4⟩,_⟩:=cP F.o;have zu:=aD F.o;go_wp2_with fail;refine(E.o _).mono ?_;rintro e w3 ⟨rfl,hb_⟩;have HB3:=qB HB2 hb_;have R:=qK F hb_;clear hb_ E u0 u1 u2 u3 u4 zu;obtain⟨⟨u0,u1,u2,u3,u4⟩,_⟩:=cP R.o;have zu:=aD R.o;go_wp2;refine bR (.agg #[.slice none 0 0,.int .i64 1,.int .i64 f,.string ByteArray.empty,.int .i64 0]) ?_;rw[HRES.o,HV2.o];exact lX rfl ab.o oJ (uC HB3.o (Nat.le_succ _))
   .have G:(n.op==3)=false:=bN.2 qo;have H:(n.op==4)=false:=bN.2 qo;have e7:(n.op==5)=false:=bN.2 qo;exact QAB
def Sx(n:No)(l:List It):Prop:=((n.op=1\/n.op=2)/\l=[])\/xM n l
theorem Pq{ok ok':nP}(n:No)(c:oO n)(b:Value)(l:List It)(a:Value)(g:List Gv)(w:World)(d:aH sK w ok' b l)(h:aH jM w ok a g)(hw:Sx n l):Calls prog 272 #[jJ n,b,a] w (pD (iO g n l) w):=by
 rcases hw with ⟨h1|h1,e⟩|hw
 .exact Jv n c b l a g w d h h1 e
 .exact Jw n c b l a g w d h h1 e
 by_cases he:xN n l
 .exact Jy n c b l a g w d h he
 by_cases f:n.op=12\/n.op=13
 .exact Jz n c b l a g w d h f he (by unfold xM at hw;omega)
 .exact Ka n c b l a g w d h qo he hw
theorem GS{op:Int}{m:List Bool}(h:mO op=some m):m.length=jI op/\((op=1\/op=2)\/op=3\/op=4\/op=5\/op=11\/(6<=op/\op<=13/\op≠11)):=by
 unfold mO at h;unfold jI;split at h
 .rename_i h1;injection h with h;subst h;rw[iP h1];exact⟨rfl,.inl h1⟩
 rename_i h1;split at h
 .rename_i h2;injection h with h;subst h;rw[iN h1,iP qo];exact⟨rfl,qo⟩
 rename_i h2;split at h
 .rename_i h3;injection h with h;subst h;rw[iN h1,iN qo];exact⟨rfl,qo⟩
 rename_i h3;split at h
 .rename_i h4;injection h with h;subst h;rw[iN h1,iP qo];exact⟨rfl,qo⟩
 rename_i h4;split at h
 .rename_i h5;injection h with h;subst h;rw[iN h1,iN qo];exact⟨rfl,qo⟩
 .cases h
def tD(r:List No)(st:List It):Prop:=∃a made:List Bool,a.length=st.length/\iM r a=some made
theorem LA{n:No}{r:List No}{st:List It}(h:tD (n::r) st):jI n.op<=st.length/\Sx n (st.drop (st.length - jI n.op))/\∀x,tD r (st.take (st.length - jI n.op)++[x]):=by
 obtain⟨d,made,f,b⟩:=h;unfold iM at b
 cases he:lA d n with
 |none=>rw[he] at b;cases b
 |some t2=>
  rw[he] at b;dsimp only at b;unfold lA at he
  cases hw:mO n.op with
  |none=>rw[hw] at he;cases he
  |some m=>
   rw[hw] at he;dsimp only at he;obtain⟨ha,a⟩:=GS hw;split at he
   .rename_i e;injection he with he;have h1:jI n.op<=st.length:=qo;have c:(st.drop (st.length - jI n.op)).length=jI n.op:=by rw[List.length_drop];omega
    refine⟨h1,?_,fun x=>⟨t2,made,?_,b⟩⟩
    .rcases a with a|a
     .have h0:jI n.op=0:=by unfold jI;rw[iP a]
      exact .inl ⟨a,List.eq_nil_of_length_eq_zero qo⟩
     .refine .inr ?_;unfold xM;rw[c];unfold jI
      rcases a with h|h|h|h|h
      .exact .inl ⟨h,by rw[iN qo,iP qo]⟩
      .exact .inr (.inl ⟨h,by rw[iN qo,iP qo]⟩)
      .exact .inr (.inr (.inl ⟨h,by rw[iN qo,iN qo]⟩))
      .exact .inr (.inr (.inr (.inl ⟨h,by rw[iN qo,iP qo]⟩)))
      .exact .inr (.inr (.inr (.inr ⟨h.1,h.2.1,h.2.2,by rw[iN qo,iN qo]⟩)))
    .rw[<-he,aL,aL,List.length_take,List.length_take];simp only[List.length_singleton];omega
   .cases he
theorem Pr{l:List No}(h:lB l=0)(d:l≠[]):tD l []/\∀b made,iM l b=some made->b=[]->made=[false]:=by
 unfold lB at h;split at h
 .cases h
 cases a:iM l [] with
 |none=>rw[a] at h;cases h
 |some made=>
  rw[a] at h;dsimp only at h;split at h
  .cases h
  rename_i c;refine⟨⟨[],made,rfl,a⟩,fun b m2 hm f=> ?_⟩;subst f;rw[a] at hm;injection hm with hm;subst hm;have hp:0<l.length:=List.length_pos_iff.2 d;by_cases e:made=[false]
  .exact e
  .exact absurd ⟨hp,e⟩ c
theorem LB:∀(l:List No) (a made:List Bool),iM l a=some made->∀(g:List Gv) (st:List It),st.length=a.length->(zG g l st).length=made.length
 | [],a,made,h,g,st,hl=>by
   injection h with h;subst h;exact hl
 |n::r,a,made,h,g,st,hl=>by
  have c:=LA (n:=n) (r:=r) (st:=st) ⟨a,made,hl.symm,h⟩;unfold iM at h
  cases he:lA a n with
  |none=>rw[he] at h;cases h
  |some t2=>
   rw[he] at h;dsimp only at h;unfold zG;refine LB r t2 made h g _ ?_;unfold lA at he
   cases hw:mO n.op with
   |none=>rw[hw] at he;cases he
   |some m=>
    rw[hw] at he;dsimp only at he;obtain⟨ha,_⟩:=GS hw;split at he
    .rename_i b;injection he with he;rw[<-he,aL,aL,List.length_take,List.length_take];simp only[List.length_singleton];omega
    .cases he
theorem RH{g:List Gv}{l:List No}{st R:List It}{k:Nat}(a:k<l.length)(h:zG g (l.drop k) st=R):zG g (l.drop (k+1)) (st.take (st.length - jI l[k].op)++[iO g l[k] (st.drop (st.length - jI l[k].op))])=R:=by
 rw[List.drop_eq_getElem_cons a] at h;exact h
theorem Ps{l:List No}{st:List It}{k:Nat}(a:k<l.length)(h:tD (l.drop k) st):tD (l[k] ::l.drop (k+1)) st:=by
 rw[List.drop_eq_getElem_cons a] at h;exact h
end Go.Proofs.YtbinmcabjnoliaaGreatDoor
