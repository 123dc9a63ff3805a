/- Lemmas. -/
import Derived.Test.YthcgdgkpgdjahaaGreatDoorMas
namespace Go.Proofs.YthcgdgkpgdjahaaGreatDoor
open Go.RowKit
set_option linter.unusedVariables false
set_option linter.unusedSimpArgs false
set_option maxHeartbeats 16000000
open _root_.Go.Proofs.Tryz
set_option maxRecDepth 20000
theorem QCl{p:Prop}(h:p:=by
 simp only[Program.fieldsOf,underlying30];go_simp;by_cases h1:x0=y0<;>by_cases h2:x1=y1<;>by_cases h3:x2=y2<;>simp[h1,h2,h3,DN]):p:=h
theorem QAx{p:Prop}(h:p:=by
 have hb1:b<w1.heap.size:=lL hbl HB1.o.size;replace B0:=qK B0 hb_;obtain⟨⟨B00,B01,B02⟩,_⟩:=cF B0.o;have zB0:=aD B0.o;clear hb_ HM;go_wp2_with fail;refine(HK.o _ HB1.o).mono ?_;rintro e w2 ⟨rfl,hb_⟩;have HB2:=qB HB1 hb_
 try clear B00 B01 B02 zB0
 replace B0:=qK B0 hb_;obtain⟨⟨B00,B01,B02⟩,_⟩:=cF B0.o;have zB0:=aD B0.o;clear hb_ HK;go_wp2;refine bR (.tuple #[.agg #[.int .i64 0,.int .i64 0,.string ⟨#[]⟩],.int .i64 2]) ?_;unfold eE;rw[HV.o];exact⟨rfl,(((HB2.o).setCell (lR _) _).setCell (lR _) _).setCell (lR _) _⟩):p:=h
theorem QAu{p:Prop}(h:p:=by
 go_wp2_with fail;refine(HE.o _).mono ?_;rintro e w3 ⟨rfl,hb_⟩;have HB3:=aA (aC (HB2.o) hb_);have B3:=aA (aE (show (w2).heap[w.heap.size]? =_ from B0.o) hb_);obtain⟨⟨u0,u1,u2⟩,_⟩:=cF B3.o;have zu:=aD B3.o;clear hb_ HE;go_wp2;refine bR (.tuple #[.agg #[.int .i64 1,.int .i64 n,.string ByteArray.empty],.int .i64 0]) ?_;unfold eE;rw[HV.o];exact⟨rfl,(((HB3.o).setCell (lR _) _).setCell (lR _) _).setCell (lR _) _⟩):p:=h
theorem QAp{p:Prop}(h:p:=by
 have dp:(x.2.1==1)=p:=hp;have dq:(y.2.1==1)=q:=hq;clear h hr e ek HRR gx gy hk HV0 hp hq HT
 cases p<;>cases q
 all_goals
  subst ht;clear hbl;have hbl:b<w.heap.size:=by obtain⟨b',off',e',h',_⟩:=iV HS.o;injection e' with e';injection e' with e';omega
  go_enter func285,ntmps285;go_wp2_with fail;refine HM.o.mono ?_;rintro e w1 ⟨rfl,hb_⟩;have HB1:=qB HB0 hb_;have HS1:=aA (HS.o.on bG HB1.o);obtain⟨x0,x1,x2,y0,y1,y2⟩:=nE HS1.o;have hb1:b<w1.heap.size:=lL hbl HB1.o.size;replace B0:=qK B0 hb_;obtain⟨⟨B00,B01,B02⟩,_⟩:=cF B0.o;have zB0:=aD B0.o;clear hb_ HM;go_wp2_with fail;refine(HK.o _ HB1.o).mono ?_;rintro e w2 ⟨rfl,hb_⟩;have HB2:=qB HB1 hb_;have HS2:=aA (HS.o.on bG HB2.o);clear x0 x1 x2 y0 y1 y2;obtain⟨x0,x1,x2,y0,y1,y2⟩:=nE HS2.o
  try clear B00 B01 B02 zB0
  replace B0:=qK B0 hb_;obtain⟨⟨B00,B01,B02⟩,_⟩:=cF B0.o;have zB0:=aD B0.o;clear hb_ HK;go_wp2_with fail;refine(HE.o _).mono ?_;rintro e w3 ⟨rfl,hb_⟩;have HB3:=aA (aC (HB2.o) hb_);have B3:=aA (aE (show (w2).heap[w.heap.size]? =_ from B0.o) hb_);obtain⟨⟨u0,u1,u2⟩,_⟩:=cF B3.o;have zu:=aD B3.o;clear hb_ HE;go_wp2;refine bR (.tuple #[.agg #[.int .i64 1,.int .i64 n,.string ByteArray.empty],.int .i64 0]) ?_;unfold eE;rw[HV.o];exact⟨rfl,(((HB3.o).setCell (lR _) _).setCell (lR _) _).setCell (lR _) _⟩):p:=h
theorem QAn{p:Prop}(h:p:=by
 obtain⟨⟨r0,r1,r2⟩,en⟩:=r;simp only at HN;clear h hr e HRR gx gy;go_enter func285,ntmps285;go_wp2_with fail;refine HM.o.mono ?_;rintro e w1 ⟨rfl,hb_⟩;have HB1:=qB HB0 hb_;have HS1:=aA (HS.o.on bG HB1.o);obtain⟨x0,x1,x2,y0,y1,y2⟩:=nE HS1.o;have hb1:b<w1.heap.size:=lL hbl HB1.o.size;replace B0:=qK B0 hb_;obtain⟨⟨B00,B01,B02⟩,_⟩:=cF B0.o;have zB0:=aD B0.o;clear hb_ HM;go_wp2_with fail;refine(HN.o _ HB1.o).mono ?_;rintro e w2 ⟨rfl,hb_⟩;have HB2:=qB HB1 hb_;replace B0:=qK B0 hb_;obtain⟨⟨B00,B01,B02⟩,_⟩:=cF B0.o;have zB0:=aD B0.o;clear hb_ HN;go_wp2;refine bR (.tuple #[.agg #[.int .i64 r0,.int .i64 r1,.string r2],.int .i64 en]) ?_;unfold eE;rw[HV.o];exact⟨rfl,(((HB2.o).setCell (lR _) _).setCell (lR _) _).setCell (lR _) _⟩):p:=h
theorem FR(x y:V3)(w:World):Sem.run prog (binOp .eql 30 (.agg #[.int .i64 x.1,.int .i64 x.2.1,.string x.2.2]) (.agg #[.int .i64 y.1,.int .i64 y.2.1,.string y.2.2])) w=.ok (.bool (decide (x=y))) w:=by
 obtain⟨x0,x1,x2⟩:=x;obtain⟨y0,y1,y2⟩:=y;have u3:=underlying3;have a3:=isAgg3;have z3:=sizeOf3;have u9:=underlying9;have a9:=isAgg9;have z9:=sizeOf9;have a:prog.underlying 30=some (.struct (prog.fieldsOf 30)):=by kernel_rfl
 have hp:prog.stoodInHeld 30=false:=by kernel_rfl
 rw[run_eql_struct,show (10000:Nat)=9999+1 from rfl,run_equalIn_agg w 9999 30 _ _ a hp];exact QCl
theorem IB{ok:nP}(op:Int)(v:Value)(l:List V3)(w:World)(h:aH VR w ok v l)(h6:6<=op)(h13:op<=13)(i:l.length=TE op)(j:l.all aT=false):Calls prog 285 #[.int .i64 op,v] w (eE (aY,1) w):=by
 have g:=aA (aB w (.cells fW 30));have b:=aA (aK w (.cells fW 30) _ rfl);have d:=aA (oA op v l _ (h.on bG g.o) h6 h13 i);obtain⟨a,c,rfl,_⟩:=h.slice;unfold aP at d;rw[j] at d;clear h h6 h13 i j;go_enter func285,ntmps285;go_wp2_with fail;refine d.o.mono ?_;rintro e w1 ⟨rfl,f⟩;have k:=qB g f;replace b:=qK b f;obtain⟨⟨m,n,o⟩,_⟩:=cF b.o;have p:=aD b.o;clear f d;go_wp2;refine bR (.tuple #[.agg #[.int .i64 0,.int .i64 0,.string ⟨#[]⟩],.int .i64 1]) ?_;unfold eE;exact⟨rfl,((k.o.setCell (lR _) _).setCell (lR _) _).setCell (lR _) _⟩
theorem Kj{ok:nP}(v:Value)(x y:V3)(w:World)(h:aH VR w ok v [x,y])(l:aT x=true/\aT y=true):Calls prog 285 #[.int .i64 6,v] w (eE (dI 6 x y) w):=by
 have p:=aA (aB w (.cells fW 30));have g:=aA (aK w (.cells fW 30) _ rfl);have j:=aA (oA 6 v [x,y] _ (h.on bG p.o) qe qe rfl);have B:=aA h;obtain⟨a,c,rfl,_⟩:=h.slice;obtain⟨b,off,rfl,G,E,F,_⟩:=iV h;unfold aP at j;have e:[x,y].all aT=true:=by simp[l.1,l.2]
 rw[e] at j;have o:¬(aT x=false\/aT y=false):=by rw[l.1,l.2];decide
 by_cases k:x.1=y.1
 case neg=>
  have r:Hid (dI 6 x y=(aY,2)):=aA (by unfold dI;rw[iN o,iP rfl,iP k]);have d:(x.1 != y.1)=true:=bne_iff_ne.2 k;clear h l e o E F k;go_enter func285,ntmps285;go_wp2_with fail;refine j.o.mono ?_;rintro e w1 ⟨rfl,f⟩;have i:=qB p f;have q:=aA (B.o.on bG i.o);obtain⟨N,O,P,Q,R,S⟩:=nE q.o;have L:b<w1.heap.size:=lL G i.o.size;replace g:=qK g f;obtain⟨⟨H,I,J⟩,_⟩:=cF g.o;have T:=aD g.o;clear f j;go_wp2;go_quiet (fail)
  go_wp2;refine bR (.tuple #[.agg #[.int .i64 0,.int .i64 0,.string ⟨#[]⟩],.int .i64 2]) ?_;unfold eE;rw[r.o];exact⟨rfl,(((gB i.o ⟨_,rfl⟩).setCell (lR _) _).setCell (lR _) _).setCell (lR _) _⟩
 have M:=FR x y;obtain⟨t,z⟩:∃t:Bool,decide (x=y)=t:=⟨_,rfl⟩;obtain⟨n,s⟩:∃n:Int,(if t=true then (1:Int) else 0)=n:=⟨_,rfl⟩;have m:=aA (fun w'=>sK t w');have D:dC (cI t)=.agg #[.int .i64 1,.int .i64 n,.string ByteArray.empty]:=by unfold dC cI;simp only[s]
 unfold aP at m;rw[D] at m;have C:Hid (cI t=(1,n,ByteArray.empty)):=aA (by unfold cI;rw[s]);clear D s;have r:Hid (dI 6 x y=((1,n,ByteArray.empty),0)):=aA (by unfold dI;rw[iN o,iP rfl,iN (fun h=>h k),z,C.o]);have d:(x.1 != y.1)=false:=by rw[k];simp
 rw[z] at M;clear h l e o E F k z C;go_enter func285,ntmps285;go_wp2_with fail;refine j.o.mono ?_;rintro e w1 ⟨rfl,f⟩;have i:=qB p f;have q:=aA (B.o.on bG i.o);obtain⟨N,O,P,Q,R,S⟩:=nE q.o;have L:b<w1.heap.size:=lL G i.o.size;replace g:=qK g f;obtain⟨⟨H,I,J⟩,_⟩:=cF g.o;have T:=aD g.o;clear f j;go_wp2;go_quiet (fail)
 go_wp2;refine rB 7 (by kernel_rfl) (by kernel_rfl) ?_;simp only[List.take_succ_cons,List.take_zero,List.drop_succ_cons,List.drop_zero]
 repeat still_step
 refine wpStill_nil ?_;go_wp2_with fail;refine(m.o _).mono ?_;rintro e U ⟨rfl,f⟩;have K:=aA (aC ((gB i.o ⟨nq,rfl⟩).drew) f);have A:=aA (aE (show ((w1.drewN nq).drew).heap[w.heap.size]? =_ from g.o) f);obtain⟨⟨u0,u1,u2⟩,_⟩:=cF A.o;have V:=aD A.o;clear f m;go_wp2;refine bR (.tuple #[.agg #[.int .i64 1,.int .i64 n,.string ByteArray.empty],.int .i64 0]) ?_;unfold eE;rw[r.o];exact⟨rfl,(((K.o).setCell (lR _) _).setCell (lR _) _).setCell (lR _) _⟩
theorem Kk{ok:nP}(v:Value)(x y:V3)(w:World)(h:aH VR w ok v [x,y])(j:aT x=true/\aT y=true):Calls prog 285 #[.int .i64 7,v] w (eE (dI 7 x y) w):=by
 have A:=aA (aB w (.cells fW 30));have B0:=aA (aK w (.cells fW 30) _ rfl);have l:=aA (oA 7 v [x,y] _ (h.on bG A.o) qe qe rfl);have O:=aA h;obtain⟨a,c,rfl,_⟩:=h.slice;obtain⟨b,off,rfl,Q,F,G,_⟩:=iV h;unfold aP at l;have e:[x,y].all aT=true:=by simp[j.1,j.2]
 rw[e] at l;have B:¬(aT x=false\/aT y=false):=by rw[j.1,j.2];decide
 have k:=aA (fun w'=>DI x y F G w');have f:Hid (dI 7 x y=if (kC x y).2≠0 then (aY,(kC x y).2) else (cI (kC x y).1,0)):=aA (by unfold dI;rw[iN B,iN qe,iP rfl]);unfold tJ dC at k;generalize kC x y=r at *;obtain⟨t0,i⟩:=r;simp only at k f;obtain⟨t,R⟩:∃t:Bool,t0=t:=⟨_,rfl⟩;obtain⟨n,o⟩:∃n:Int,(if t=true then (1:Int) else 0)=n:=⟨_,rfl⟩;have HE:=aA (fun w'=>sK t w');have E:dC (cI t)=.agg #[.int .i64 1,.int .i64 n,.string ByteArray.empty]:=by unfold dC cI;simp only[o]
 unfold aP at HE;rw[E] at HE;have D:Hid (cI t=(1,n,ByteArray.empty)):=aA (by unfold cI;rw[o]);clear E o;subst R;rw[D.o] at f;clear h j e B F G D;go_enter func285,ntmps285;go_wp2_with fail;refine l.o.mono ?_;rintro e w1 ⟨rfl,hb_⟩;have m:=qB A hb_;have P:=aA (O.o.on bG m.o);obtain⟨H,I,J,K,L,M⟩:=nE P.o;have g:b<w1.heap.size:=lL Q m.o.size;replace B0:=qK B0 hb_;obtain⟨⟨q,s,z⟩,_⟩:=cF B0.o;have N:=aD B0.o;clear hb_ l;go_wp2;have T:∀p:In (BS w1),p.w.cell? ⟨b,off,none⟩=some (.int .i64 x.1):=fun p=>(p.h.cell (p:=⟨b,off,none⟩) g).trans H
 have U:∀p:In (BS w1),p.w.cell? ⟨b,off+1,none⟩=some (.int .i64 x.2.1):=fun p=>(p.h.cell (p:=⟨b,off+1,none⟩) g).trans I
 have V:∀p:In (BS w1),p.w.cell? ⟨b,off+2,none⟩=some (.string x.2.2):=fun p=>(p.h.cell (p:=⟨b,off+2,none⟩) g).trans J
 have W:∀p:In (BS w1),p.w.cell? ⟨b,off+3,none⟩=some (.int .i64 y.1):=fun p=>(p.h.cell (p:=⟨b,off+3,none⟩) g).trans K
 have X:∀p:In (BS w1),p.w.cell? ⟨b,off+3+1,none⟩=some (.int .i64 y.2.1):=fun p=>(p.h.cell (p:=⟨b,off+3+1,none⟩) g).trans L
 have Y:∀p:In (BS w1),p.w.cell? ⟨b,off+3+2,none⟩=some (.string y.2.2):=fun p=>(p.h.cell (p:=⟨b,off+3+2,none⟩) g).trans M
 clear H I J K L M;refine CP (C:=BS w1) (by kernel_rfl) (by kernel_rfl) (TR w1) ?_
 repeat (go_big_quiet_step (exact in_call fun _ S=>(k.o _).mono fun e Z h=>⟨h.1,aC S h.2⟩))
 refine wpQuiet_nil ?_;intro w2 hb_;have HB2:=qB m hb_;clear T U V W X Y
 try clear q s z N
 replace B0:=qK B0 hb_;obtain⟨⟨q,s,z⟩,_⟩:=cF B0.o;have N:=aD B0.o;clear hb_ k;by_cases he:i=0
 .have d:(i != 0)=false:=by rw[he];rfl
  have HV:Hid (dI 7 x y=((1,n,ByteArray.empty),0)):=aA (by have:=f.o;rwa [iN (fun h=>h he)] at this);clear he f;exact QAu
 .have d:(i != 0)=true:=bne_iff_ne.2 he;have HV:Hid (dI 7 x y=(aY,i)):=aA (by have:=f.o;rwa [iP he] at this);clear he f HE;go_wp2;refine bR (.tuple #[.agg #[.int .i64 0,.int .i64 0,.string ⟨#[]⟩],.int .i64 i]) ?_;unfold eE;rw[HV.o];exact⟨rfl,(((HB2.o).setCell (lR _) _).setCell (lR _) _).setCell (lR _) _⟩
theorem Kl{ok:nP}(v:Value)(x y:V3)(w:World)(h:aH VR w ok v [x,y])(hr:aT x=true/\aT y=true):Calls prog 285 #[.int .i64 8,v] w (eE (dI 8 x y) w):=by
 have HB0:=aA (aB w (.cells fW 30));have B0:=aA (aK w (.cells fW 30) _ rfl);have HM:=aA (oA 8 v [x,y] _ (h.on bG HB0.o) qe qe rfl);have HS:=aA h;obtain⟨a,c,rfl,_⟩:=h.slice;obtain⟨b,off,rfl,hbl,gx,gy,_⟩:=iV h;unfold aP at HM;have e:[x,y].all aT=true:=by simp[hr.1,hr.2]
 rw[e] at HM;have HRR:¬(aT x=false\/aT y=false):=by rw[hr.1,hr.2];decide
 have HN:=aA (fun w' (h:Below w.heap.size w w')=>Ep _ x y w' (HS.o.on bG h));have HV:Hid (dI 8 x y=eK tD x y):=aA (by unfold dI;rw[iN HRR,iN qe,iN qe,iP rfl]);unfold eE dC at HN;generalize eK tD x y=r at *;exact QAn
theorem Km{ok:nP}(v:Value)(x y:V3)(w:World)(h:aH VR w ok v [x,y])(hr:aT x=true/\aT y=true):Calls prog 285 #[.int .i64 9,v] w (eE (dI 9 x y) w):=by
 have HB0:=aA (aB w (.cells fW 30));have B0:=aA (aK w (.cells fW 30) _ rfl);have HM:=aA (oA 9 v [x,y] _ (h.on bG HB0.o) qe qe rfl);have HS:=aA h;obtain⟨a,c,rfl,_⟩:=h.slice;obtain⟨b,off,rfl,hbl,gx,gy,_⟩:=iV h;unfold aP at HM;have e:[x,y].all aT=true:=by simp[hr.1,hr.2]
 rw[e] at HM;have HRR:¬(aT x=false\/aT y=false):=by rw[hr.1,hr.2];decide
 have HN:=aA (fun w' (h:Below w.heap.size w w')=>Er _ x y w' (HS.o.on bG h));have HV:Hid (dI 9 x y=eK tE x y):=aA (by unfold dI;rw[iN HRR,iN qe,iN qe,iN qe,iP rfl]);unfold eE dC at HN;generalize eK tE x y=r at *;exact QAn
theorem Et{ok:nP}(v:Value)(x y:V3)(w:World)(h:aH VR w ok v [x,y])(hr:aT x=true/\aT y=true):Calls prog 285 #[.int .i64 10,v] w (eE (dI 10 x y) w):=by
 have HB0:=aA (aB w (.cells fW 30));have B0:=aA (aK w (.cells fW 30) _ rfl);have HM:=aA (oA 10 v [x,y] _ (h.on bG HB0.o) qe qe rfl);have HS:=aA h;obtain⟨a,c,rfl,_⟩:=h.slice;obtain⟨b,off,rfl,hbl,gx,gy,_⟩:=iV h;unfold aP at HM;have e:[x,y].all aT=true:=by simp[hr.1,hr.2]
 rw[e] at HM;have HRR:¬(aT x=false\/aT y=false):=by rw[hr.1,hr.2];decide
 have HN:=aA (fun w' (h:Below w.heap.size w w')=>Es _ x y w' (HS.o.on bG h));have HV:Hid (dI 10 x y=eK mN x y):=aA (by unfold dI;rw[iN HRR,iN qe,iN qe,iN qe,iN qe,iP rfl]);unfold eE dC at HN;generalize eK mN x y=r at *;exact QAn
theorem Eu{ok:nP}(v:Value)(x y:V3)(w:World)(h:aH VR w ok v [x,y])(hr:aT x=true/\aT y=true):Calls prog 285 #[.int .i64 12,v] w (eE (dI 12 x y) w):=by
 have HB0:=aA (aB w (.cells fW 30));have B0:=aA (aK w (.cells fW 30) _ rfl);have HM:=aA (oA 12 v [x,y] _ (h.on bG HB0.o) qe qe rfl);have HS:=aA h;obtain⟨a,c,rfl,_⟩:=h.slice;obtain⟨b,off,rfl,hbl,gx,gy,_⟩:=iV h;unfold aP at HM;have e:[x,y].all aT=true:=by simp[hr.1,hr.2]
 rw[e] at HM;have HRR:¬(aT x=false\/aT y=false):=by rw[hr.1,hr.2];decide
 have HK:=aA (fun w' (h:Below w.heap.size w w')=>tM 1 _ [x,y] w' (HS.o.on bG h));unfold aP at HK;have HV0:Hid (dI 12 x y=if x.1≠1\/y.1≠1 then (aY,2) else (cI (decide (x.2.1=1)&&decide (y.2.1=1)),0)):=aA (by unfold dI;rw[iN HRR,iN qe,iN qe,iN qe,iN qe,iN qe];rfl);by_cases hk:x.1=1/\y.1=1
 case neg=>
  have ek:[x,y].all (fun z=>decide (z.1=1))=false:=by
   rw[Bool.eq_false_iff];intro h;simp at h;exact hk h
  have HV:Hid (dI 12 x y=(aY,2)):=aA (by have:=HV0.o;rwa [iP (by by_cases h1:x.1=1;exact .inr (fun h2=>hk ⟨h1,h2⟩);exact .inl h1)] at this);rw[ek] at HK;clear h hr e ek HRR gx gy hk HV0;go_enter func285,ntmps285;go_wp2_with fail;refine HM.o.mono ?_;rintro e w1 ⟨rfl,hb_⟩;have HB1:=qB HB0 hb_;have HS1:=aA (HS.o.on bG HB1.o);obtain⟨x0,x1,x2,y0,y1,y2⟩:=nE HS1.o;exact QAx
 have ek:[x,y].all (fun z=>decide (z.1=1))=true:=by simp[hk.1,hk.2]
 rw[ek] at HK;obtain⟨p,hp⟩:∃p,decide (x.2.1=1)=p:=⟨_,rfl⟩;obtain⟨q,hq⟩:∃q,decide (y.2.1=1)=q:=⟨_,rfl⟩;obtain⟨t,ht⟩:∃t:Bool,(p&&q)=t:=⟨_,rfl⟩;obtain⟨n,d⟩:∃n:Int,(if t=true then (1:Int) else 0)=n:=⟨_,rfl⟩;have HE:=aA (fun w'=>sK t w');have f:dC (cI t)=.agg #[.int .i64 1,.int .i64 n,.string ByteArray.empty]:=by unfold dC cI;simp only[d]
 unfold aP at HE;rw[f] at HE;have HT:Hid (cI t=(1,n,ByteArray.empty)):=aA (by unfold cI;rw[d]);clear f d;have HV:Hid (dI 12 x y=((1,n,ByteArray.empty),0)):=aA (by have:=HV0.o;rwa [iN (fun h=>h.elim (fun h=>h hk.1) (fun h=>h hk.2)),hp,hq,ht,HT.o] at this);exact QAp
theorem Ev{ok:nP}(v:Value)(x y:V3)(w:World)(h:aH VR w ok v [x,y])(hr:aT x=true/\aT y=true):Calls prog 285 #[.int .i64 13,v] w (eE (dI 13 x y) w):=by
 have HB0:=aA (aB w (.cells fW 30));have B0:=aA (aK w (.cells fW 30) _ rfl);have HM:=aA (oA 13 v [x,y] _ (h.on bG HB0.o) qe qe rfl);have HS:=aA h;obtain⟨a,c,rfl,_⟩:=h.slice;obtain⟨b,off,rfl,hbl,gx,gy,_⟩:=iV h;unfold aP at HM;have e:[x,y].all aT=true:=by simp[hr.1,hr.2]
 rw[e] at HM;have HRR:¬(aT x=false\/aT y=false):=by rw[hr.1,hr.2];decide
 have HK:=aA (fun w' (h:Below w.heap.size w w')=>tM 1 _ [x,y] w' (HS.o.on bG h));unfold aP at HK;have HV0:Hid (dI 13 x y=if x.1≠1\/y.1≠1 then (aY,2) else (cI (decide (x.2.1=1)||decide (y.2.1=1)),0)):=aA (by unfold dI;rw[iN HRR,iN qe,iN qe,iN qe,iN qe,iN qe];rfl);by_cases hk:x.1=1/\y.1=1
 case neg=>
  have ek:[x,y].all (fun z=>decide (z.1=1))=false:=by
   rw[Bool.eq_false_iff];intro h;simp at h;exact hk h
  have HV:Hid (dI 13 x y=(aY,2)):=aA (by have:=HV0.o;rwa [iP (by by_cases h1:x.1=1;exact .inr (fun h2=>hk ⟨h1,h2⟩);exact .inl h1)] at this);rw[ek] at HK;clear h hr e ek HRR gx gy hk HV0;go_enter func285,ntmps285;go_wp2_with fail;refine HM.o.mono ?_;rintro e w1 ⟨rfl,hb_⟩;have HB1:=qB HB0 hb_;have HS1:=aA (HS.o.on bG HB1.o);obtain⟨x0,x1,x2,y0,y1,y2⟩:=nE HS1.o;exact QAx
 have ek:[x,y].all (fun z=>decide (z.1=1))=true:=by simp[hk.1,hk.2]
 rw[ek] at HK;obtain⟨p,hp⟩:∃p,decide (x.2.1=1)=p:=⟨_,rfl⟩;obtain⟨q,hq⟩:∃q,decide (y.2.1=1)=q:=⟨_,rfl⟩;obtain⟨t,ht⟩:∃t:Bool,(p||q)=t:=⟨_,rfl⟩;obtain⟨n,d⟩:∃n:Int,(if t=true then (1:Int) else 0)=n:=⟨_,rfl⟩;have HE:=aA (fun w'=>sK t w');have f:dC (cI t)=.agg #[.int .i64 1,.int .i64 n,.string ByteArray.empty]:=by unfold dC cI;simp only[d]
 unfold aP at HE;rw[f] at HE;have HT:Hid (cI t=(1,n,ByteArray.empty)):=aA (by unfold cI;rw[d]);clear f d;have HV:Hid (dI 13 x y=((1,n,ByteArray.empty),0)):=aA (by have:=HV0.o;rwa [iN (fun h=>h.elim (fun h=>h hk.1) (fun h=>h hk.2)),hp,hq,ht,HT.o] at this);exact QAp
theorem Ew{ok:nP}(v:Value)(x:V3)(w:World)(h:aH VR w ok v [x])(i:aT x=true):Calls prog 285 #[.int .i64 11,v] w (eE (oC 11 x) w):=by
 have j:=aA (aB w (.cells fW 30));have B0:=aA (aK w (.cells fW 30) _ rfl);have HM:=aA (oA 11 v [x] _ (h.on bG j.o) qe qe rfl);have f:=aA h;obtain⟨a,c,rfl,_⟩:=h.slice;obtain⟨b,off,rfl,hbl,A,_⟩:=LJ h;unfold aP at HM;have e:[x].all aT=true:=by simp[i]
 rw[e] at HM;have g:Hid (oC 11 x=if x.1≠1 then (aY,2) else (cI (decide (x.2.1=0)),0)):=aA (iN (by rw[i];decide));have HK:=aA (fun w' (h:Below w.heap.size w w')=>tM 1 _ [x] w' (f.o.on bG h));unfold aP at HK;have l:[x].all (fun z=>decide (z.1=1))=decide (x.1=1):=by simp
 rw[l] at HK;by_cases d:x.1=1
 case neg=>
  have HV:Hid (oC 11 x=(aY,2)):=aA (by have:=g.o;rwa [iP d] at this);rw[dF d] at HK;clear h i e l A d g;go_enter func285,ntmps285;go_wp2_with fail;refine HM.o.mono ?_;rintro e w1 ⟨rfl,hb_⟩;have HB1:=qB j hb_;have k:=aA (f.o.on bG HB1.o);obtain⟨p,q,r⟩:=FQ k.o;exact QAx
 rw[dX d] at HK;obtain⟨t,o⟩:∃t:Bool,decide (x.2.1=0)=t:=⟨_,rfl⟩;obtain⟨n,m⟩:∃n:Int,(if t=true then (1:Int) else 0)=n:=⟨_,rfl⟩;have HE:=aA (fun w'=>sK t w');have y:dC (cI t)=.agg #[.int .i64 1,.int .i64 n,.string ByteArray.empty]:=by unfold dC cI;simp only[m]
 unfold aP at HE;rw[y] at HE;have s:Hid (cI t=(1,n,ByteArray.empty)):=aA (by unfold cI;rw[m]);clear y m;have HV:Hid (oC 11 x=((1,n,ByteArray.empty),0)):=aA (by have:=g.o;rwa [iN (fun h=>h d),o,s.o] at this);have C:(x.2.1==0)=t:=o;clear h i e l A d g o s;go_enter func285,ntmps285;go_wp2_with fail;refine HM.o.mono ?_;rintro e w1 ⟨rfl,hb_⟩;have HB1:=qB j hb_;have k:=aA (f.o.on bG HB1.o);obtain⟨p,q,r⟩:=FQ k.o;have hb1:b<w1.heap.size:=lL hbl HB1.o.size;replace B0:=qK B0 hb_;obtain⟨⟨B00,B01,B02⟩,_⟩:=cF B0.o;have zB0:=aD B0.o;clear hb_ HM;go_wp2_with fail;refine(HK.o _ HB1.o).mono ?_;rintro e w2 ⟨rfl,hb_⟩;have HB2:=qB HB1 hb_;have B:=aA (f.o.on bG HB2.o);clear p q r;obtain⟨p,q,r⟩:=FQ B.o
 try clear B00 B01 B02 zB0
 replace B0:=qK B0 hb_;obtain⟨⟨B00,B01,B02⟩,_⟩:=cF B0.o;have zB0:=aD B0.o;clear hb_ HK;exact QAu
theorem QCe{p:Prop}(h:p:=by
 go_wp2;go_returns;exact⟨by rw[HE.o];rfl,aC (aB _ _) (aB _ _)⟩):p:=h
theorem yY(x y:V3)(w:World):Sem.run prog (binOp .neq 30 (.agg #[.int .i64 x.1,.int .i64 x.2.1,.string x.2.2]) (.agg #[.int .i64 y.1,.int .i64 y.2.1,.string y.2.2])) w=.ok (.bool (!decide (x=y))) w:=by
 obtain⟨x0,x1,x2⟩:=x;obtain⟨y0,y1,y2⟩:=y;have u3:=underlying3;have a3:=isAgg3;have z3:=sizeOf3;have u9:=underlying9;have a9:=isAgg9;have z9:=sizeOf9;have a:prog.underlying 30=some (.struct (prog.fieldsOf 30)):=by kernel_rfl
 have hp:prog.stoodInHeld 30=false:=by kernel_rfl
 rw[run_neq_struct,show (10000:Nat)=9999+1 from rfl,run_equalIn_agg w 9999 30 _ _ a hp];exact QCl
theorem pK(x y:Op)(w:World):Sem.run prog (binOp .eql 32 (eZ x) (eZ y)) w=.ok (.bool (decide (x=y))) w:=by
 obtain⟨n,o,r,s,t,⟨d,e,f⟩,v,z,p,q⟩:=x;obtain⟨A,B,E,F,G,⟨g,i,j⟩,H,I,C,D⟩:=y;unfold eZ bX;have u3:=underlying3;have a3:=isAgg3;have z3:=sizeOf3;have u9:=underlying9;have a9:=isAgg9;have z9:=sizeOf9;have u4:=underlying4;have a4:=isAgg4;have z4:=sizeOf4;have J:=isAgg30;have L:=sizeOf30;have k:prog.underlying 32=some (.struct (prog.fieldsOf 32)):=by kernel_rfl
 have hp:prog.stoodInHeld 32=false:=by kernel_rfl
 have l:prog.underlying 30=some (.struct (prog.fieldsOf 30)):=by kernel_rfl
 have m:prog.stoodInHeld 30=false:=by kernel_rfl
 have K:∀w,Sem.run prog (Op.equalIn 9999 30 (.agg #[.int .i64 d,.int .i64 e,.string f]) (.agg #[.int .i64 g,.int .i64 i,.string j])) w=.ok (decide (d=g/\e=i/\f=j)) w:=fun w=>by
  rw[show (9999:Nat)=9998+1 from rfl,run_equalIn_agg w 9998 30 _ _ l m];simp only[Program.fieldsOf,underlying30];go_simp;by_cases h1:d=g<;>by_cases h2:e=i<;>by_cases h3:f=j<;>simp[h1,h2,h3,DN]
 rw[run_eql_struct,show (10000:Nat)=9999+1 from rfl,run_equalIn_agg w 9999 32 _ _ k hp];simp only[Program.fieldsOf,underlying32];go_simp;simp only[DN];by_cases h0:n=A
 case neg=>simp[h0]
 rw[iP h0];by_cases h1:o=B
 case neg=>simp[h1]
 rw[iP h1];by_cases h2:r=E
 case neg=>simp[h2]
 rw[iP h2];by_cases h3:s=F
 case neg=>simp[h3]
 rw[iP h3];by_cases h4:t=G
 case neg=>simp[h4]
 rw[iP h4];by_cases h5:d=g/\e=i/\f=j
 case neg=>
  rw[iP (fun a b c=>h5 ⟨a,b,c⟩)];have h6:(decide (d=g)&&(decide (e=i)&&decide (f=j)))=false:=by rw[Bool.eq_false_iff];simpa using h5
  simp[h6]
 obtain⟨h5,h6,h7⟩:=h5;rw[iN (fun h=>h h5 h6 h7)];by_cases h8:v=H
 case neg=>simp[h8]
 rw[iP h8];by_cases h9:z=I
 case neg=>simp[h9]
 rw[iP h9];by_cases h10:p=C
 case neg=>simp[h10]
 rw[iP h10];by_cases h11:q=D
 case neg=>simp[h11]
 rw[iP h11];simp[h0,h1,h2,h3,h4,h5,h6,h7,h8,h9,h10,h11]
theorem Rb(o:Op)(w:World):Calls prog 115 #[eZ o] w (aP (eZ (TA o)) w):=by
 obtain⟨k,su,a,b,d,⟨v1,v2,v3⟩,c,e,g,f⟩:=o;unfold aP eZ bX TA;dsimp only;go_enter func115,ntmps115;go_wp2;refine bR (.agg #[.int .i64 k,.string ⟨#[]⟩,.string a,.string b,.string d,.int .i64 v1,.int .i64 v2,.string v3,.int .i64 c,.string e,.string ⟨#[]⟩,.bool false]) ?_;refine⟨rfl,?_⟩
 repeat (refine Below.setCell ?_ (by first|exact lR _|exact Nat.le_succ _) _)
 exact aC (aB _ _) (aB _ _)
theorem yZ{p:Prop}(h:p:=by
 rw[HT.o];first|(rw[HG0.o];rfl)|(rw[HG0.o,Bool.and_false];rfl)):p:=h
theorem qG{p:Prop}(h:p:=by
 repeat (first|refine Below.setCell ?_ (show w.heap.size<=w1.heap.size+1 by have:=HSZ.o;omega) _|refine Below.drew ?_)
 exact aC (aC HB1.o (aB _ _)) (aB _ _)):p:=h
theorem Kn(o:Op)(w:World):Calls prog 60 #[eZ o] w (aP (.bool (fX o)) w):=by
 obtain⟨k,su,a,b,d,⟨v1,v2,v3⟩,c,f,F,D⟩:=o;have P:=aA (fun W=>Rb (⟨k,su,a,b,d,(v1,v2,v3),c,f,F,D⟩:Op) W);unfold aP eZ bX TA at P;unfold eZ bX;dsimp only at P ⊢;unfold aP;obtain⟨W0,Z⟩:=xE (w.alloc (.cells #[.int .i64 k,.string su,.string a,.string b,.string d,.int .i64 v1,.int .i64 v2,.string v3,.int .i64 c,.string f,.string F,.bool D] 32));have ae:Hid (Below w.heap.size w W0):=aA (by rw[Z];exact aB _ _);have A:Hid (W0.heap[w.heap.size]? =some (.cells #[.int .i64 k,.string su,.string a,.string b,.string d,.int .i64 v1,.int .i64 v2,.string v3,.int .i64 c,.string f,.string F,.bool D] 32 (0,0))):=aA (by rw[Z];exact aK _ _ _ rfl);have i:=aA Z;have HI:=aA (P.o W0);clear Z P;go_enter func60,ntmps60;go_wp2_with fail;rw[<-i.o];refine HI.o.mono ?_;rintro e w1 ⟨rfl,ad⟩;have HB1:=qB ae ad;replace A:=qK A ad;obtain⟨⟨l,m,q,r,s,t,v,x,y,z,n,p⟩,_⟩:=bK A.o;have zA:=aD A.o;clear ad HI;have HSZ:=aA HB1.o.size;by_cases Q:k=1
 .subst Q;have j:fX ⟨1,su,a,b,d,(v1,v2,v3),c,f,F,D⟩=(decide (a.size≠0)&&decide ((⟨1,ByteArray.empty,a,b,d,(v1,v2,v3),c,f,ByteArray.empty,false⟩:Op)=(⟨1,⟨#[]⟩,a,⟨#[]⟩,⟨#[]⟩,(0,0,⟨#[]⟩),0,⟨#[]⟩,⟨#[]⟩,false⟩:Op))):=by
   unfold fX;dsimp only;rw[iP rfl];rfl
  have heq:=pK (⟨1,ByteArray.empty,a,b,d,(v1,v2,v3),c,f,ByteArray.empty,false⟩:Op) (⟨1,⟨#[]⟩,a,⟨#[]⟩,⟨#[]⟩,(0,0,⟨#[]⟩),0,⟨#[]⟩,⟨#[]⟩,false⟩:Op);unfold eZ bX at heq;dsimp only at heq;generalize decide ((⟨1,ByteArray.empty,a,b,d,(v1,v2,v3),c,f,ByteArray.empty,false⟩:Op)=(⟨1,⟨#[]⟩,a,⟨#[]⟩,⟨#[]⟩,(0,0,⟨#[]⟩),0,⟨#[]⟩,⟨#[]⟩,false⟩:Op))=E at *;have HT:=aA j;clear j;by_cases g:a.size=0
  .obtain⟨H,I⟩:=fY a [] (nC g);have HG0:Hid (decide (a.size≠0)=false):=aA (dF (fun h=>h g));clear g;go_wp2
   all_goals
    clear A l m q r s t v x y z n p i;go_returns;refine⟨bH ?_,?_⟩
    .exact yZ
    .exact qG
  .obtain⟨H,I⟩:=fP a [] (lE g);have G:Hid (decide (a.size≠0)=true):=aA (dX g);clear g;go_wp2
   all_goals
    clear A l m q r s t v x y z n p i;go_returns;refine⟨bH ?_,?_⟩
    .rw[HT.o];simp only[G.o,Bool.true_and]
    .exact qG
 have an:(k==1)=false:=bN.2 Q;by_cases R:k=2
 .subst R;have j:fX ⟨2,su,a,b,d,(v1,v2,v3),c,f,F,D⟩=((decide (a.size≠0)&&decide (b.size≠0))&&decide ((⟨2,ByteArray.empty,a,b,d,(v1,v2,v3),c,f,ByteArray.empty,false⟩:Op)=(⟨2,⟨#[]⟩,a,b,⟨#[]⟩,(0,0,⟨#[]⟩),0,⟨#[]⟩,⟨#[]⟩,false⟩:Op))):=by
   unfold fX;dsimp only;rw[iN qe,iP (.inl rfl)];rfl
  have heq:=pK (⟨2,ByteArray.empty,a,b,d,(v1,v2,v3),c,f,ByteArray.empty,false⟩:Op) (⟨2,⟨#[]⟩,a,b,⟨#[]⟩,(0,0,⟨#[]⟩),0,⟨#[]⟩,⟨#[]⟩,false⟩:Op);unfold eZ bX at heq;dsimp only at heq;generalize decide ((⟨2,ByteArray.empty,a,b,d,(v1,v2,v3),c,f,ByteArray.empty,false⟩:Op)=(⟨2,⟨#[]⟩,a,b,⟨#[]⟩,(0,0,⟨#[]⟩),0,⟨#[]⟩,⟨#[]⟩,false⟩:Op))=E at *;have HT:=aA j;clear j;by_cases g:a.size=0
  .obtain⟨H,I⟩:=fY a [] (nC g);have HG0:Hid (decide (a.size≠0)=false):=aA (dF (fun h=>h g));clear g;go_wp2;go_region
   all_goals go_wp2
   all_goals
    clear A l m q r s t v x y z n p i;go_returns;refine⟨bH ?_,?_⟩
    .exact yZ
    .exact qG
  .obtain⟨H,I⟩:=fP a [] (lE g);have G:Hid (decide (a.size≠0)=true):=aA (dX g);clear g;by_cases B:b.size=0
   .obtain⟨N,O⟩:=fY b [] (nC B);have HG0:Hid (decide (b.size≠0)=false):=aA (dF (fun h=>h B));clear B;go_wp2;go_region
    all_goals go_wp2
    all_goals
     clear A l m q r s t v x y z n p i;go_returns;refine⟨bH ?_,?_⟩
     .exact yZ
     .exact qG
   .obtain⟨N,O⟩:=fP b [] (lE B);have M:Hid (decide (b.size≠0)=true):=aA (dX B);clear B;go_wp2;go_region
    all_goals go_wp2
    all_goals
     clear A l m q r s t v x y z n p i;go_returns;refine⟨bH ?_,?_⟩
     .rw[HT.o];simp only[G.o,M.o,Bool.true_and]
     .exact qG
 have ao:(k==2)=false:=bN.2 R;by_cases V:k=6
 .subst V;have j:fX ⟨6,su,a,b,d,(v1,v2,v3),c,f,F,D⟩=((decide (a.size≠0)&&decide (b.size≠0))&&decide ((⟨6,ByteArray.empty,a,b,d,(v1,v2,v3),c,f,ByteArray.empty,false⟩:Op)=(⟨6,⟨#[]⟩,a,b,⟨#[]⟩,(0,0,⟨#[]⟩),0,⟨#[]⟩,⟨#[]⟩,false⟩:Op))):=by
   unfold fX;dsimp only;rw[iN qe,iP (.inr rfl)];rfl
  have heq:=pK (⟨6,ByteArray.empty,a,b,d,(v1,v2,v3),c,f,ByteArray.empty,false⟩:Op) (⟨6,⟨#[]⟩,a,b,⟨#[]⟩,(0,0,⟨#[]⟩),0,⟨#[]⟩,⟨#[]⟩,false⟩:Op);unfold eZ bX at heq;dsimp only at heq;generalize decide ((⟨6,ByteArray.empty,a,b,d,(v1,v2,v3),c,f,ByteArray.empty,false⟩:Op)=(⟨6,⟨#[]⟩,a,b,⟨#[]⟩,(0,0,⟨#[]⟩),0,⟨#[]⟩,⟨#[]⟩,false⟩:Op))=E at *;have HT:=aA j;clear j;by_cases g:a.size=0
  .obtain⟨H,I⟩:=fY a [] (nC g);have HG0:Hid (decide (a.size≠0)=false):=aA (dF (fun h=>h g));clear g;go_wp2;go_region
   all_goals go_wp2
   all_goals
    clear A l m q r s t v x y z n p i;go_returns;refine⟨bH ?_,?_⟩
    .exact yZ
    .exact qG
  .obtain⟨H,I⟩:=fP a [] (lE g);have G:Hid (decide (a.size≠0)=true):=aA (dX g);clear g;by_cases B:b.size=0
   .obtain⟨N,O⟩:=fY b [] (nC B);have HG0:Hid (decide (b.size≠0)=false):=aA (dF (fun h=>h B));clear B;go_wp2;go_region
    all_goals go_wp2
    all_goals
     clear A l m q r s t v x y z n p i;go_returns;refine⟨bH ?_,?_⟩
     .exact yZ
     .exact qG
   .obtain⟨N,O⟩:=fP b [] (lE B);have M:Hid (decide (b.size≠0)=true):=aA (dX B);clear B;go_wp2;go_region
    all_goals go_wp2
    all_goals
     clear A l m q r s t v x y z n p i;go_returns;refine⟨bH ?_,?_⟩
     .rw[HT.o];simp only[G.o,M.o,Bool.true_and]
     .exact qG
 have av:(k==6)=false:=bN.2 V;by_cases S:k=3
 .subst S;have j:fX ⟨3,su,a,b,d,(v1,v2,v3),c,f,F,D⟩=(((decide (a.size≠0)&&decide (b.size≠0))&&decide (((v1,v2,v3):V3)≠aY))&&decide ((⟨3,ByteArray.empty,a,b,d,(v1,v2,v3),c,f,ByteArray.empty,false⟩:Op)=(⟨3,⟨#[]⟩,a,b,⟨#[]⟩,(v1,v2,v3),0,⟨#[]⟩,⟨#[]⟩,false⟩:Op))):=by
   unfold fX;dsimp only;rw[iN qe,iN qe,iP rfl];rfl
  have heq:=pK (⟨3,ByteArray.empty,a,b,d,(v1,v2,v3),c,f,ByteArray.empty,false⟩:Op) (⟨3,⟨#[]⟩,a,b,⟨#[]⟩,(v1,v2,v3),0,⟨#[]⟩,⟨#[]⟩,false⟩:Op);unfold eZ bX at heq;dsimp only at heq;generalize decide ((⟨3,ByteArray.empty,a,b,d,(v1,v2,v3),c,f,ByteArray.empty,false⟩:Op)=(⟨3,⟨#[]⟩,a,b,⟨#[]⟩,(v1,v2,v3),0,⟨#[]⟩,⟨#[]⟩,false⟩:Op))=E at *;have HT:=aA j;clear j;by_cases g:a.size=0
  .obtain⟨H,I⟩:=fY a [] (nC g);have HG0:Hid (decide (a.size≠0)=false):=aA (dF (fun h=>h g));clear g;go_wp2;go_region
   all_goals go_wp2
   all_goals
    clear A l m q r s t v x y z n p i;go_returns;refine⟨bH ?_,?_⟩
    .exact yZ
    .exact qG
  .obtain⟨H,I⟩:=fP a [] (lE g);have G:Hid (decide (a.size≠0)=true):=aA (dX g);clear g;by_cases B:b.size=0
   .obtain⟨N,O⟩:=fY b [] (nC B);have HG0:Hid (decide (b.size≠0)=false):=aA (dF (fun h=>h B));clear B;go_wp2;go_region
    all_goals go_wp2
    all_goals
     clear A l m q r s t v x y z n p i;go_returns;refine⟨bH ?_,?_⟩
     .exact yZ
     .exact qG
   .obtain⟨N,O⟩:=fP b [] (lE B);have M:Hid (decide (b.size≠0)=true):=aA (dX B);clear B;by_cases L:((v1,v2,v3):V3)=aY
    .have aj:∀w,Sem.run prog (binOp .neq 30 (.agg #[.int .i64 v1,.int .i64 v2,.string v3]) (.agg #[.int .i64 0,.int .i64 0,.string ⟨#[]⟩])) w=.ok (.bool false) w:=fun w=>(yY (v1,v2,v3) aY w).trans (by rw[dX L];rfl)
     have HG0:Hid (decide (((v1,v2,v3):V3)≠aY)=false):=aA (dF (fun h=>h L));clear L;go_wp2;go_region
     all_goals go_wp2
     all_goals
      clear A l m q r s t v x y z n p i;go_returns;refine⟨bH ?_,?_⟩
      .exact yZ
      .exact qG
    .have aj:∀w,Sem.run prog (binOp .neq 30 (.agg #[.int .i64 v1,.int .i64 v2,.string v3]) (.agg #[.int .i64 0,.int .i64 0,.string ⟨#[]⟩])) w=.ok (.bool true) w:=fun w=>(yY (v1,v2,v3) aY w).trans (by rw[dF L];rfl)
     have ah:Hid (decide (((v1,v2,v3):V3)≠aY)=true):=aA (dX L);clear L;go_wp2;go_region
     all_goals go_wp2
     all_goals
      clear A l m q r s t v x y z n p i;go_returns;refine⟨bH ?_,?_⟩
      .rw[HT.o];simp only[G.o,M.o,ah.o,Bool.true_and]
      .exact qG
 have aq:(k==3)=false:=bN.2 S;by_cases T:k=4
 .subst T;have j:fX ⟨4,su,a,b,d,(v1,v2,v3),c,f,F,D⟩=((decide (a.size≠0)&&decide (d.size≠0))&&decide ((⟨4,ByteArray.empty,a,b,d,(v1,v2,v3),c,f,ByteArray.empty,false⟩:Op)=(⟨4,⟨#[]⟩,a,⟨#[]⟩,d,(0,0,⟨#[]⟩),0,⟨#[]⟩,⟨#[]⟩,false⟩:Op))):=by
   unfold fX;dsimp only;rw[iN qe,iN qe,iN qe,iP rfl];rfl
  have heq:=pK (⟨4,ByteArray.empty,a,b,d,(v1,v2,v3),c,f,ByteArray.empty,false⟩:Op) (⟨4,⟨#[]⟩,a,⟨#[]⟩,d,(0,0,⟨#[]⟩),0,⟨#[]⟩,⟨#[]⟩,false⟩:Op);unfold eZ bX at heq;dsimp only at heq;generalize decide ((⟨4,ByteArray.empty,a,b,d,(v1,v2,v3),c,f,ByteArray.empty,false⟩:Op)=(⟨4,⟨#[]⟩,a,⟨#[]⟩,d,(0,0,⟨#[]⟩),0,⟨#[]⟩,⟨#[]⟩,false⟩:Op))=E at *;have HT:=aA j;clear j;by_cases g:a.size=0
  .obtain⟨H,I⟩:=fY a [] (nC g);have HG0:Hid (decide (a.size≠0)=false):=aA (dF (fun h=>h g));clear g;go_wp2;go_region
   all_goals go_wp2
   all_goals
    clear A l m q r s t v x y z n p i;go_returns;refine⟨bH ?_,?_⟩
    .exact yZ
    .exact qG
  .obtain⟨H,I⟩:=fP a [] (lE g);have G:Hid (decide (a.size≠0)=true):=aA (dX g);clear g;by_cases K:d.size=0
   .obtain⟨ak,al⟩:=fY d [] (nC K);have HG0:Hid (decide (d.size≠0)=false):=aA (dF (fun h=>h K));clear K;go_wp2;go_region
    all_goals go_wp2
    all_goals
     clear A l m q r s t v x y z n p i;go_returns;refine⟨bH ?_,?_⟩
     .exact yZ
     .exact qG
   .obtain⟨ak,al⟩:=fP d [] (lE K);have ag:Hid (decide (d.size≠0)=true):=aA (dX K);clear K;go_wp2;go_region
    all_goals go_wp2
    all_goals
     clear A l m q r s t v x y z n p i;go_returns;refine⟨bH ?_,?_⟩
     .rw[HT.o];simp only[G.o,ag.o,Bool.true_and]
     .exact qG
 have ar:(k==4)=false:=bN.2 T;by_cases U:k=5
 .subst U;have j:fX ⟨5,su,a,b,d,(v1,v2,v3),c,f,F,D⟩=(decide (0<c)&&decide ((⟨5,ByteArray.empty,a,b,d,(v1,v2,v3),c,f,ByteArray.empty,false⟩:Op)=(⟨5,⟨#[]⟩,⟨#[]⟩,⟨#[]⟩,⟨#[]⟩,(0,0,⟨#[]⟩),c,⟨#[]⟩,⟨#[]⟩,false⟩:Op))):=by
   unfold fX;dsimp only;rw[iN qe,iN qe,iN qe,iN qe,iP rfl];rfl
  have heq:=pK (⟨5,ByteArray.empty,a,b,d,(v1,v2,v3),c,f,ByteArray.empty,false⟩:Op) (⟨5,⟨#[]⟩,⟨#[]⟩,⟨#[]⟩,⟨#[]⟩,(0,0,⟨#[]⟩),c,⟨#[]⟩,⟨#[]⟩,false⟩:Op);unfold eZ bX at heq;dsimp only at heq;generalize decide ((⟨5,ByteArray.empty,a,b,d,(v1,v2,v3),c,f,ByteArray.empty,false⟩:Op)=(⟨5,⟨#[]⟩,⟨#[]⟩,⟨#[]⟩,⟨#[]⟩,(0,0,⟨#[]⟩),c,⟨#[]⟩,⟨#[]⟩,false⟩:Op))=E at *;have HT:=aA j;clear j;by_cases C:¬0<c
  .have ab:decide (c > 0)=false:=dF C;have HG0:Hid (decide (0<c)=false):=aA (dF C);clear C;go_wp2
   all_goals
    clear A l m q r s t v x y z n p i;go_returns;refine⟨bH ?_,?_⟩
    .exact yZ
    .exact qG
  .have ab:decide (c > 0)=true:=dX (Decidable.not_not.1 C);have aa:Hid (decide (0<c)=true):=aA (dX (Decidable.not_not.1 C));clear C;go_wp2
   all_goals
    clear A l m q r s t v x y z n p i;go_returns;refine⟨bH ?_,?_⟩
    .rw[HT.o];simp only[aa.o,Bool.true_and]
    .exact qG
 have au:(k==5)=false:=bN.2 U;by_cases X:k=7
 .subst X;have j:fX ⟨7,su,a,b,d,(v1,v2,v3),c,f,F,D⟩=decide ((⟨7,ByteArray.empty,a,b,d,(v1,v2,v3),c,f,ByteArray.empty,false⟩:Op)=(⟨7,⟨#[]⟩,⟨#[]⟩,⟨#[]⟩,⟨#[]⟩,(0,0,⟨#[]⟩),0,f,⟨#[]⟩,false⟩:Op)):=by
   unfold fX;dsimp only;rw[iN qe,iN qe,iN qe,iN qe,iN qe,iP rfl];rfl
  have heq:=pK (⟨7,ByteArray.empty,a,b,d,(v1,v2,v3),c,f,ByteArray.empty,false⟩:Op) (⟨7,⟨#[]⟩,⟨#[]⟩,⟨#[]⟩,⟨#[]⟩,(0,0,⟨#[]⟩),0,f,⟨#[]⟩,false⟩:Op);unfold eZ bX at heq;dsimp only at heq;generalize decide ((⟨7,ByteArray.empty,a,b,d,(v1,v2,v3),c,f,ByteArray.empty,false⟩:Op)=(⟨7,⟨#[]⟩,⟨#[]⟩,⟨#[]⟩,⟨#[]⟩,(0,0,⟨#[]⟩),0,f,⟨#[]⟩,false⟩:Op))=E at *;have HT:=aA j;clear j;go_wp2
  all_goals
   clear A l m q r s t v x y z n p i;go_returns;refine⟨bH ?_,?_⟩
   .rw[HT.o]
   .exact qG
 have aw:(k==7)=false:=bN.2 X;by_cases Y:k=8
 .subst Y;have j:fX ⟨8,su,a,b,d,(v1,v2,v3),c,f,F,D⟩=((decide (0<c)&&decide (c<=1099511627776))&&decide ((⟨8,ByteArray.empty,a,b,d,(v1,v2,v3),c,f,ByteArray.empty,false⟩:Op)=(⟨8,⟨#[]⟩,⟨#[]⟩,⟨#[]⟩,⟨#[]⟩,(0,0,⟨#[]⟩),c,⟨#[]⟩,⟨#[]⟩,false⟩:Op))):=by
   unfold fX;dsimp only;rw[iN qe,iN qe,iN qe,iN qe,iN qe,iN qe,iP rfl];rfl
  have heq:=pK (⟨8,ByteArray.empty,a,b,d,(v1,v2,v3),c,f,ByteArray.empty,false⟩:Op) (⟨8,⟨#[]⟩,⟨#[]⟩,⟨#[]⟩,⟨#[]⟩,(0,0,⟨#[]⟩),c,⟨#[]⟩,⟨#[]⟩,false⟩:Op);unfold eZ bX at heq;dsimp only at heq;generalize decide ((⟨8,ByteArray.empty,a,b,d,(v1,v2,v3),c,f,ByteArray.empty,false⟩:Op)=(⟨8,⟨#[]⟩,⟨#[]⟩,⟨#[]⟩,⟨#[]⟩,(0,0,⟨#[]⟩),c,⟨#[]⟩,⟨#[]⟩,false⟩:Op))=E at *;have HT:=aA j;clear j;by_cases C:¬0<c
  .have ab:decide (c > 0)=false:=dF C;have HG0:Hid (decide (0<c)=false):=aA (dF C);clear C;go_wp2
   all_goals
    clear A l m q r s t v x y z n p i;go_returns;refine⟨bH ?_,?_⟩
    .exact yZ
    .exact qG
  .have ab:decide (c > 0)=true:=dX (Decidable.not_not.1 C);have aa:Hid (decide (0<c)=true):=aA (dX (Decidable.not_not.1 C));clear C;by_cases J:¬c<=1099511627776
   .have ai:decide (c<=1099511627776)=false:=dF J;have HG0:Hid (decide (c<=1099511627776)=false):=aA (dF J);clear J;go_wp2
    all_goals
     clear A l m q r s t v x y z n p i;go_returns;refine⟨bH ?_,?_⟩
     .exact yZ
     .exact qG
   .have ai:decide (c<=1099511627776)=true:=dX (Decidable.not_not.1 J);have af:Hid (decide (c<=1099511627776)=true):=aA (dX (Decidable.not_not.1 J));clear J;go_wp2
    all_goals
     clear A l m q r s t v x y z n p i;go_returns;refine⟨bH ?_,?_⟩
     .rw[HT.o];simp only[aa.o,af.o,Bool.true_and]
     .exact qG
 have ax:(k==8)=false:=bN.2 Y;have HT:Hid (fX ⟨k,su,a,b,d,(v1,v2,v3),c,f,F,D⟩=false):=aA (by
  unfold fX;rw[iN Q,iN (fun h=>h.elim R V),iN S,iN T,iN U,iN X,iN Y])
 clear Q R S T U V X Y;go_wp2
 all_goals
  clear A l m q r s t v x y z n p i;go_returns;refine⟨bH ?_,?_⟩
  .rw[HT.o]
  .exact qG
end Go.Proofs.YthcgdgkpgdjahaaGreatDoor
