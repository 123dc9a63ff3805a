/- Lemmas. -/
import Derived.Test.YtlfngkelmbdehaaGreatDoorMas
namespace Go.Proofs.YtlfngkelmbdehaaGreatDoor
open Go.RowKit
set_option linter.unusedVariables false
set_option linter.unusedSimpArgs false
set_option maxHeartbeats 16000000
open _root_.Go.Proofs.Tryz
set_option maxRecDepth 20000
theorem QCk{p:Prop}(h:p:=by
 simp only[Program.fieldsOf,underlying44];go_simp;by_cases h1:x0=y0<;>by_cases h2:x1=y1<;>by_cases h3:x2=y2<;>simp[h1,h2,h3,CT]):p:=h
theorem Xq{p:Prop}(h:p:=by
 have hb1:b<w1.heap.size:=lL hbl HB1.o.size;replace B0:=qK B0 hb_;obtain⟨⟨B00,B01,B02⟩,_⟩:=cE B0.o;have zB0:=aD B0.o;clear hb_ HM;go_wp2_with fail;refine(HK.o _ HB1.o).mono ?_;rintro e w2 ⟨rfl,hb_⟩;have HB2:=qB HB1 hb_
 try clear B00 B01 B02 zB0
 replace B0:=qK B0 hb_;obtain⟨⟨B00,B01,B02⟩,_⟩:=cE B0.o;have zB0:=aD B0.o;clear hb_ HK;go_wp2;refine bR (.tuple #[.agg #[.int .i64 0,.int .i64 0,.string ⟨#[]⟩],.int .i64 2]) ?_;unfold eA;rw[HV.o];exact⟨rfl,(((HB2.o).setCell (lR _) _).setCell (lR _) _).setCell (lR _) _⟩):p:=h
theorem QAu{p:Prop}(h:p:=by
 go_wp2_with fail;refine(HE.o _).mono ?_;rintro e w3 ⟨rfl,hb_⟩;have HB3:=aA (aC (HB2.o) hb_);have B3:=aA (aE (show (w2).heap[w.heap.size]? =_ from B0.o) hb_);obtain⟨⟨u0,u1,u2⟩,_⟩:=cE B3.o;have zu:=aD B3.o;clear hb_ HE;go_wp2;refine bR (.tuple #[.agg #[.int .i64 1,.int .i64 n,.string ByteArray.empty],.int .i64 0]) ?_;unfold eA;rw[HV.o];exact⟨rfl,(((HB3.o).setCell (lR _) _).setCell (lR _) _).setCell (lR _) _⟩):p:=h
theorem QAp{p:Prop}(h:p:=by
 have dp:(x.2.1==1)=p:=hp;have dq:(y.2.1==1)=q:=hq;clear h hr e ek HRR gx gy hk HV0 hp hq HT
 cases p<;>cases q
 all_goals
  subst ht;clear hbl;have hbl:b<w.heap.size:=by obtain⟨b',off',e',h',_⟩:=iR HS.o;injection e' with e';injection e' with e';omega
  go_enter func285,ntmps285;go_wp2_with fail;refine HM.o.mono ?_;rintro e w1 ⟨rfl,hb_⟩;have HB1:=qB HB0 hb_;have HS1:=aA (HS.o.on bG HB1.o);obtain⟨x0,x1,x2,y0,y1,y2⟩:=mS HS1.o;have hb1:b<w1.heap.size:=lL hbl HB1.o.size;replace B0:=qK B0 hb_;obtain⟨⟨B00,B01,B02⟩,_⟩:=cE B0.o;have zB0:=aD B0.o;clear hb_ HM;go_wp2_with fail;refine(HK.o _ HB1.o).mono ?_;rintro e w2 ⟨rfl,hb_⟩;have HB2:=qB HB1 hb_;have HS2:=aA (HS.o.on bG HB2.o);clear x0 x1 x2 y0 y1 y2;obtain⟨x0,x1,x2,y0,y1,y2⟩:=mS HS2.o
  try clear B00 B01 B02 zB0
  replace B0:=qK B0 hb_;obtain⟨⟨B00,B01,B02⟩,_⟩:=cE B0.o;have zB0:=aD B0.o;clear hb_ HK;go_wp2_with fail;refine(HE.o _).mono ?_;rintro e w3 ⟨rfl,hb_⟩;have HB3:=aA (aC (HB2.o) hb_);have B3:=aA (aE (show (w2).heap[w.heap.size]? =_ from B0.o) hb_);obtain⟨⟨u0,u1,u2⟩,_⟩:=cE B3.o;have zu:=aD B3.o;clear hb_ HE;go_wp2;refine bR (.tuple #[.agg #[.int .i64 1,.int .i64 n,.string ByteArray.empty],.int .i64 0]) ?_;unfold eA;rw[HV.o];exact⟨rfl,(((HB3.o).setCell (lR _) _).setCell (lR _) _).setCell (lR _) _⟩):p:=h
theorem Xr{p:Prop}(h:p:=by
 obtain⟨⟨r0,r1,r2⟩,en⟩:=r;simp only at HN;clear h hr e HRR gx gy;go_enter func285,ntmps285;go_wp2_with fail;refine HM.o.mono ?_;rintro e w1 ⟨rfl,hb_⟩;have HB1:=qB HB0 hb_;have HS1:=aA (HS.o.on bG HB1.o);obtain⟨x0,x1,x2,y0,y1,y2⟩:=mS HS1.o;have hb1:b<w1.heap.size:=lL hbl HB1.o.size;replace B0:=qK B0 hb_;obtain⟨⟨B00,B01,B02⟩,_⟩:=cE B0.o;have zB0:=aD B0.o;clear hb_ HM;go_wp2_with fail;refine(HN.o _ HB1.o).mono ?_;rintro e w2 ⟨rfl,hb_⟩;have HB2:=qB HB1 hb_;replace B0:=qK B0 hb_;obtain⟨⟨B00,B01,B02⟩,_⟩:=cE B0.o;have zB0:=aD B0.o;clear hb_ HN;go_wp2;refine bR (.tuple #[.agg #[.int .i64 r0,.int .i64 r1,.string r2],.int .i64 en]) ?_;unfold eA;rw[HV.o];exact⟨rfl,(((HB2.o).setCell (lR _) _).setCell (lR _) _).setCell (lR _) _⟩):p:=h
theorem ES(x y:V3)(w:World):Sem.run prog (binOp .eql 44 (.agg #[.int .i64 x.1,.int .i64 x.2.1,.string x.2.2]) (.agg #[.int .i64 y.1,.int .i64 y.2.1,.string y.2.2])) w=.ok (.bool (decide (x=y))) w:=by
 obtain⟨x0,x1,x2⟩:=x;obtain⟨y0,y1,y2⟩:=y;have u3:=underlying3;have a3:=isAgg3;have z3:=sizeOf3;have u9:=underlying9;have a9:=isAgg9;have z9:=sizeOf9;have a:prog.underlying 44=some (.struct (prog.fieldsOf 44)):=by kernel_rfl
 have hp:prog.stoodInHeld 44=false:=by kernel_rfl
 rw[run_eql_struct,show (10000:Nat)=9999+1 from rfl,run_equalIn_agg w 9999 44 _ _ a hp];exact QCk
theorem FV{ok:nP}(op:Int)(v:Value)(l:List V3)(w:World)(h:aH VR w ok v l)(h6:6<=op)(h13:op<=13)(i:l.length=RN op)(j:l.all aT=false):Calls prog 285 #[.int .i64 op,v] w (eA (bD,1) w):=by
 have g:=aA (aB w (.cells fT 44));have b:=aA (aK w (.cells fT 44) _ rfl);have d:=aA (nM op v l _ (h.on bG g.o) h6 h13 i);obtain⟨a,c,rfl,_⟩:=h.slice;unfold aP at d;rw[j] at d;clear h h6 h13 i j;go_enter func285,ntmps285;go_wp2_with fail;refine d.o.mono ?_;rintro e w1 ⟨rfl,f⟩;have k:=qB g f;replace b:=qK b f;obtain⟨⟨m,n,o⟩,_⟩:=cE b.o;have p:=aD b.o;clear f d;go_wp2;refine bR (.tuple #[.agg #[.int .i64 0,.int .i64 0,.string ⟨#[]⟩],.int .i64 1]) ?_;unfold eA;exact⟨rfl,((k.o.setCell (lR _) _).setCell (lR _) _).setCell (lR _) _⟩
theorem Hw{ok:nP}(v:Value)(x y:V3)(w:World)(h:aH VR w ok v [x,y])(l:aT x=true/\aT y=true):Calls prog 285 #[.int .i64 6,v] w (eA (dH 6 x y) w):=by
 have p:=aA (aB w (.cells fT 44));have g:=aA (aK w (.cells fT 44) _ rfl);have j:=aA (nM 6 v [x,y] _ (h.on bG p.o) qe qe rfl);have B:=aA h;obtain⟨a,c,rfl,_⟩:=h.slice;obtain⟨b,off,rfl,G,E,F,_⟩:=iR h;unfold aP at j;have e:[x,y].all aT=true:=by simp[l.1,l.2]
 rw[e] at j;have o:¬(aT x=false\/aT y=false):=by rw[l.1,l.2];decide
 by_cases k:x.1=y.1
 case neg=>
  have r:Hid (dH 6 x y=(bD,2)):=aA (by unfold dH;rw[iN o,iP rfl,iP k]);have d:(x.1 != y.1)=true:=bne_iff_ne.2 k;clear h l e o E F k;go_enter func285,ntmps285;go_wp2_with fail;refine j.o.mono ?_;rintro e w1 ⟨rfl,f⟩;have i:=qB p f;have q:=aA (B.o.on bG i.o);obtain⟨N,O,P,Q,R,S⟩:=mS q.o;have L:b<w1.heap.size:=lL G i.o.size;replace g:=qK g f;obtain⟨⟨H,I,J⟩,_⟩:=cE g.o;have T:=aD g.o;clear f j;go_wp2;go_quiet (fail)
  go_wp2;refine bR (.tuple #[.agg #[.int .i64 0,.int .i64 0,.string ⟨#[]⟩],.int .i64 2]) ?_;unfold eA;rw[r.o];exact⟨rfl,(((fX i.o ⟨_,rfl⟩).setCell (lR _) _).setCell (lR _) _).setCell (lR _) _⟩
 have M:=ES x y;obtain⟨t,z⟩:∃t:Bool,decide (x=y)=t:=⟨_,rfl⟩;obtain⟨n,s⟩:∃n:Int,(if t=true then (1:Int) else 0)=n:=⟨_,rfl⟩;have m:=aA (fun w'=>rU t w');have D:dA (cH t)=.agg #[.int .i64 1,.int .i64 n,.string ByteArray.empty]:=by unfold dA cH;simp only[s]
 unfold aP at m;rw[D] at m;have C:Hid (cH t=(1,n,ByteArray.empty)):=aA (by unfold cH;rw[s]);clear D s;have r:Hid (dH 6 x y=((1,n,ByteArray.empty),0)):=aA (by unfold dH;rw[iN o,iP rfl,iN (fun h=>h k),z,C.o]);have d:(x.1 != y.1)=false:=by rw[k];simp
 rw[z] at M;clear h l e o E F k z C;go_enter func285,ntmps285;go_wp2_with fail;refine j.o.mono ?_;rintro e w1 ⟨rfl,f⟩;have i:=qB p f;have q:=aA (B.o.on bG i.o);obtain⟨N,O,P,Q,R,S⟩:=mS q.o;have L:b<w1.heap.size:=lL G i.o.size;replace g:=qK g f;obtain⟨⟨H,I,J⟩,_⟩:=cE g.o;have T:=aD g.o;clear f j;go_wp2;go_quiet (fail)
 go_wp2;refine qI 7 (by kernel_rfl) (by kernel_rfl) ?_;simp only[List.take_succ_cons,List.take_zero,List.drop_succ_cons,List.drop_zero]
 repeat still_step
 refine wpStill_nil ?_;go_wp2_with fail;refine(m.o _).mono ?_;rintro e U ⟨rfl,f⟩;have K:=aA (aC ((fX i.o ⟨nq,rfl⟩).drew) f);have A:=aA (aE (show ((w1.drewN nq).drew).heap[w.heap.size]? =_ from g.o) f);obtain⟨⟨u0,u1,u2⟩,_⟩:=cE A.o;have V:=aD A.o;clear f m;go_wp2;refine bR (.tuple #[.agg #[.int .i64 1,.int .i64 n,.string ByteArray.empty],.int .i64 0]) ?_;unfold eA;rw[r.o];exact⟨rfl,(((K.o).setCell (lR _) _).setCell (lR _) _).setCell (lR _) _⟩
theorem Hy{ok:nP}(v:Value)(x y:V3)(w:World)(h:aH VR w ok v [x,y])(j:aT x=true/\aT y=true):Calls prog 285 #[.int .i64 7,v] w (eA (dH 7 x y) w):=by
 have A:=aA (aB w (.cells fT 44));have B0:=aA (aK w (.cells fT 44) _ rfl);have l:=aA (nM 7 v [x,y] _ (h.on bG A.o) qe qe rfl);have O:=aA h;obtain⟨a,c,rfl,_⟩:=h.slice;obtain⟨b,off,rfl,Q,F,G,_⟩:=iR h;unfold aP at l;have e:[x,y].all aT=true:=by simp[j.1,j.2]
 rw[e] at l;have B:¬(aT x=false\/aT y=false):=by rw[j.1,j.2];decide
 have k:=aA (fun w'=>CM x y F G w');have f:Hid (dH 7 x y=if (jS x y).2≠0 then (bD,(jS x y).2) else (cH (jS x y).1,0)):=aA (by unfold dH;rw[iN B,iN qe,iP rfl]);unfold sU dA at k;generalize jS x y=r at *;obtain⟨t0,i⟩:=r;simp only at k f;obtain⟨t,R⟩:∃t:Bool,t0=t:=⟨_,rfl⟩;obtain⟨n,o⟩:∃n:Int,(if t=true then (1:Int) else 0)=n:=⟨_,rfl⟩;have HE:=aA (fun w'=>rU t w');have E:dA (cH t)=.agg #[.int .i64 1,.int .i64 n,.string ByteArray.empty]:=by unfold dA cH;simp only[o]
 unfold aP at HE;rw[E] at HE;have D:Hid (cH t=(1,n,ByteArray.empty)):=aA (by unfold cH;rw[o]);clear E o;subst R;rw[D.o] at f;clear h j e B F G D;go_enter func285,ntmps285;go_wp2_with fail;refine l.o.mono ?_;rintro e w1 ⟨rfl,hb_⟩;have m:=qB A hb_;have P:=aA (O.o.on bG m.o);obtain⟨H,I,J,K,L,M⟩:=mS P.o;have g:b<w1.heap.size:=lL Q m.o.size;replace B0:=qK B0 hb_;obtain⟨⟨q,s,z⟩,_⟩:=cE B0.o;have N:=aD B0.o;clear hb_ l;go_wp2;have T:∀p:In (AX w1),p.w.cell? ⟨b,off,none⟩=some (.int .i64 x.1):=fun p=>(p.h.cell (p:=⟨b,off,none⟩) g).trans H
 have U:∀p:In (AX w1),p.w.cell? ⟨b,off+1,none⟩=some (.int .i64 x.2.1):=fun p=>(p.h.cell (p:=⟨b,off+1,none⟩) g).trans I
 have V:∀p:In (AX w1),p.w.cell? ⟨b,off+2,none⟩=some (.string x.2.2):=fun p=>(p.h.cell (p:=⟨b,off+2,none⟩) g).trans J
 have W:∀p:In (AX w1),p.w.cell? ⟨b,off+3,none⟩=some (.int .i64 y.1):=fun p=>(p.h.cell (p:=⟨b,off+3,none⟩) g).trans K
 have X:∀p:In (AX w1),p.w.cell? ⟨b,off+3+1,none⟩=some (.int .i64 y.2.1):=fun p=>(p.h.cell (p:=⟨b,off+3+1,none⟩) g).trans L
 have Y:∀p:In (AX w1),p.w.cell? ⟨b,off+3+2,none⟩=some (.string y.2.2):=fun p=>(p.h.cell (p:=⟨b,off+3+2,none⟩) g).trans M
 clear H I J K L M;refine BS (C:=AX w1) (by kernel_rfl) (by kernel_rfl) (RZ w1) ?_
 repeat (go_big_quiet_step (exact in_call fun _ S=>(k.o _).mono fun e Z h=>⟨h.1,aC S h.2⟩))
 refine wpQuiet_nil ?_;intro w2 hb_;have HB2:=qB m hb_;clear T U V W X Y
 try clear q s z N
 replace B0:=qK B0 hb_;obtain⟨⟨q,s,z⟩,_⟩:=cE B0.o;have N:=aD B0.o;clear hb_ k;by_cases he:i=0
 .have d:(i != 0)=false:=by rw[he];rfl
  have HV:Hid (dH 7 x y=((1,n,ByteArray.empty),0)):=aA (by have:=f.o;rwa [iN (fun h=>h he)] at this);clear he f;exact QAu
 .have d:(i != 0)=true:=bne_iff_ne.2 he;have HV:Hid (dH 7 x y=(bD,i)):=aA (by have:=f.o;rwa [iP he] at this);clear he f HE;go_wp2;refine bR (.tuple #[.agg #[.int .i64 0,.int .i64 0,.string ⟨#[]⟩],.int .i64 i]) ?_;unfold eA;rw[HV.o];exact⟨rfl,(((HB2.o).setCell (lR _) _).setCell (lR _) _).setCell (lR _) _⟩
theorem Hz{ok:nP}(v:Value)(x y:V3)(w:World)(h:aH VR w ok v [x,y])(hr:aT x=true/\aT y=true):Calls prog 285 #[.int .i64 8,v] w (eA (dH 8 x y) w):=by
 have HB0:=aA (aB w (.cells fT 44));have B0:=aA (aK w (.cells fT 44) _ rfl);have HM:=aA (nM 8 v [x,y] _ (h.on bG HB0.o) qe qe rfl);have HS:=aA h;obtain⟨a,c,rfl,_⟩:=h.slice;obtain⟨b,off,rfl,hbl,gx,gy,_⟩:=iR h;unfold aP at HM;have e:[x,y].all aT=true:=by simp[hr.1,hr.2]
 rw[e] at HM;have HRR:¬(aT x=false\/aT y=false):=by rw[hr.1,hr.2];decide
 have HN:=aA (fun w' (h:Below w.heap.size w w')=>Co _ x y w' (HS.o.on bG h));have HV:Hid (dH 8 x y=eE sN x y):=aA (by unfold dH;rw[iN HRR,iN qe,iN qe,iP rfl]);unfold eA dA at HN;generalize eE sN x y=r at *;exact Xr
theorem Ia{ok:nP}(v:Value)(x y:V3)(w:World)(h:aH VR w ok v [x,y])(hr:aT x=true/\aT y=true):Calls prog 285 #[.int .i64 9,v] w (eA (dH 9 x y) w):=by
 have HB0:=aA (aB w (.cells fT 44));have B0:=aA (aK w (.cells fT 44) _ rfl);have HM:=aA (nM 9 v [x,y] _ (h.on bG HB0.o) qe qe rfl);have HS:=aA h;obtain⟨a,c,rfl,_⟩:=h.slice;obtain⟨b,off,rfl,hbl,gx,gy,_⟩:=iR h;unfold aP at HM;have e:[x,y].all aT=true:=by simp[hr.1,hr.2]
 rw[e] at HM;have HRR:¬(aT x=false\/aT y=false):=by rw[hr.1,hr.2];decide
 have HN:=aA (fun w' (h:Below w.heap.size w w')=>Cp _ x y w' (HS.o.on bG h));have HV:Hid (dH 9 x y=eE sO x y):=aA (by unfold dH;rw[iN HRR,iN qe,iN qe,iN qe,iP rfl]);unfold eA dA at HN;generalize eE sO x y=r at *;exact Xr
theorem Cr{ok:nP}(v:Value)(x y:V3)(w:World)(h:aH VR w ok v [x,y])(hr:aT x=true/\aT y=true):Calls prog 285 #[.int .i64 10,v] w (eA (dH 10 x y) w):=by
 have HB0:=aA (aB w (.cells fT 44));have B0:=aA (aK w (.cells fT 44) _ rfl);have HM:=aA (nM 10 v [x,y] _ (h.on bG HB0.o) qe qe rfl);have HS:=aA h;obtain⟨a,c,rfl,_⟩:=h.slice;obtain⟨b,off,rfl,hbl,gx,gy,_⟩:=iR h;unfold aP at HM;have e:[x,y].all aT=true:=by simp[hr.1,hr.2]
 rw[e] at HM;have HRR:¬(aT x=false\/aT y=false):=by rw[hr.1,hr.2];decide
 have HN:=aA (fun w' (h:Below w.heap.size w w')=>Cq _ x y w' (HS.o.on bG h));have HV:Hid (dH 10 x y=eE mA x y):=aA (by unfold dH;rw[iN HRR,iN qe,iN qe,iN qe,iN qe,iP rfl]);unfold eA dA at HN;generalize eE mA x y=r at *;exact Xr
theorem Cs{ok:nP}(v:Value)(x y:V3)(w:World)(h:aH VR w ok v [x,y])(hr:aT x=true/\aT y=true):Calls prog 285 #[.int .i64 12,v] w (eA (dH 12 x y) w):=by
 have HB0:=aA (aB w (.cells fT 44));have B0:=aA (aK w (.cells fT 44) _ rfl);have HM:=aA (nM 12 v [x,y] _ (h.on bG HB0.o) qe qe rfl);have HS:=aA h;obtain⟨a,c,rfl,_⟩:=h.slice;obtain⟨b,off,rfl,hbl,gx,gy,_⟩:=iR h;unfold aP at HM;have e:[x,y].all aT=true:=by simp[hr.1,hr.2]
 rw[e] at HM;have HRR:¬(aT x=false\/aT y=false):=by rw[hr.1,hr.2];decide
 have HK:=aA (fun w' (h:Below w.heap.size w w')=>sX 1 _ [x,y] w' (HS.o.on bG h));unfold aP at HK;have HV0:Hid (dH 12 x y=if x.1≠1\/y.1≠1 then (bD,2) else (cH (decide (x.2.1=1)&&decide (y.2.1=1)),0)):=aA (by unfold dH;rw[iN HRR,iN qe,iN qe,iN qe,iN qe,iN qe];rfl);by_cases hk:x.1=1/\y.1=1
 case neg=>
  have ek:[x,y].all (fun z=>decide (z.1=1))=false:=by
   rw[Bool.eq_false_iff];intro h;simp at h;exact hk h
  have HV:Hid (dH 12 x y=(bD,2)):=aA (by have:=HV0.o;rwa [iP (by by_cases h1:x.1=1;exact .inr (fun h2=>hk ⟨h1,h2⟩);exact .inl h1)] at this);rw[ek] at HK;clear h hr e ek HRR gx gy hk HV0;go_enter func285,ntmps285;go_wp2_with fail;refine HM.o.mono ?_;rintro e w1 ⟨rfl,hb_⟩;have HB1:=qB HB0 hb_;have HS1:=aA (HS.o.on bG HB1.o);obtain⟨x0,x1,x2,y0,y1,y2⟩:=mS HS1.o;exact Xq
 have ek:[x,y].all (fun z=>decide (z.1=1))=true:=by simp[hk.1,hk.2]
 rw[ek] at HK;obtain⟨p,hp⟩:∃p,decide (x.2.1=1)=p:=⟨_,rfl⟩;obtain⟨q,hq⟩:∃q,decide (y.2.1=1)=q:=⟨_,rfl⟩;obtain⟨t,ht⟩:∃t:Bool,(p&&q)=t:=⟨_,rfl⟩;obtain⟨n,d⟩:∃n:Int,(if t=true then (1:Int) else 0)=n:=⟨_,rfl⟩;have HE:=aA (fun w'=>rU t w');have f:dA (cH t)=.agg #[.int .i64 1,.int .i64 n,.string ByteArray.empty]:=by unfold dA cH;simp only[d]
 unfold aP at HE;rw[f] at HE;have HT:Hid (cH t=(1,n,ByteArray.empty)):=aA (by unfold cH;rw[d]);clear f d;have HV:Hid (dH 12 x y=((1,n,ByteArray.empty),0)):=aA (by have:=HV0.o;rwa [iN (fun h=>h.elim (fun h=>h hk.1) (fun h=>h hk.2)),hp,hq,ht,HT.o] at this);exact QAp
theorem Ct{ok:nP}(v:Value)(x y:V3)(w:World)(h:aH VR w ok v [x,y])(hr:aT x=true/\aT y=true):Calls prog 285 #[.int .i64 13,v] w (eA (dH 13 x y) w):=by
 have HB0:=aA (aB w (.cells fT 44));have B0:=aA (aK w (.cells fT 44) _ rfl);have HM:=aA (nM 13 v [x,y] _ (h.on bG HB0.o) qe qe rfl);have HS:=aA h;obtain⟨a,c,rfl,_⟩:=h.slice;obtain⟨b,off,rfl,hbl,gx,gy,_⟩:=iR h;unfold aP at HM;have e:[x,y].all aT=true:=by simp[hr.1,hr.2]
 rw[e] at HM;have HRR:¬(aT x=false\/aT y=false):=by rw[hr.1,hr.2];decide
 have HK:=aA (fun w' (h:Below w.heap.size w w')=>sX 1 _ [x,y] w' (HS.o.on bG h));unfold aP at HK;have HV0:Hid (dH 13 x y=if x.1≠1\/y.1≠1 then (bD,2) else (cH (decide (x.2.1=1)||decide (y.2.1=1)),0)):=aA (by unfold dH;rw[iN HRR,iN qe,iN qe,iN qe,iN qe,iN qe];rfl);by_cases hk:x.1=1/\y.1=1
 case neg=>
  have ek:[x,y].all (fun z=>decide (z.1=1))=false:=by
   rw[Bool.eq_false_iff];intro h;simp at h;exact hk h
  have HV:Hid (dH 13 x y=(bD,2)):=aA (by have:=HV0.o;rwa [iP (by by_cases h1:x.1=1;exact .inr (fun h2=>hk ⟨h1,h2⟩);exact .inl h1)] at this);rw[ek] at HK;clear h hr e ek HRR gx gy hk HV0;go_enter func285,ntmps285;go_wp2_with fail;refine HM.o.mono ?_;rintro e w1 ⟨rfl,hb_⟩;have HB1:=qB HB0 hb_;have HS1:=aA (HS.o.on bG HB1.o);obtain⟨x0,x1,x2,y0,y1,y2⟩:=mS HS1.o;exact Xq
 have ek:[x,y].all (fun z=>decide (z.1=1))=true:=by simp[hk.1,hk.2]
 rw[ek] at HK;obtain⟨p,hp⟩:∃p,decide (x.2.1=1)=p:=⟨_,rfl⟩;obtain⟨q,hq⟩:∃q,decide (y.2.1=1)=q:=⟨_,rfl⟩;obtain⟨t,ht⟩:∃t:Bool,(p||q)=t:=⟨_,rfl⟩;obtain⟨n,d⟩:∃n:Int,(if t=true then (1:Int) else 0)=n:=⟨_,rfl⟩;have HE:=aA (fun w'=>rU t w');have f:dA (cH t)=.agg #[.int .i64 1,.int .i64 n,.string ByteArray.empty]:=by unfold dA cH;simp only[d]
 unfold aP at HE;rw[f] at HE;have HT:Hid (cH t=(1,n,ByteArray.empty)):=aA (by unfold cH;rw[d]);clear f d;have HV:Hid (dH 13 x y=((1,n,ByteArray.empty),0)):=aA (by have:=HV0.o;rwa [iN (fun h=>h.elim (fun h=>h hk.1) (fun h=>h hk.2)),hp,hq,ht,HT.o] at this);exact QAp
theorem Cu{ok:nP}(v:Value)(x:V3)(w:World)(h:aH VR w ok v [x])(i:aT x=true):Calls prog 285 #[.int .i64 11,v] w (eA (nQ 11 x) w):=by
 have j:=aA (aB w (.cells fT 44));have B0:=aA (aK w (.cells fT 44) _ rfl);have HM:=aA (nM 11 v [x] _ (h.on bG j.o) qe qe rfl);have f:=aA h;obtain⟨a,c,rfl,_⟩:=h.slice;obtain⟨b,off,rfl,hbl,A,_⟩:=KG h;unfold aP at HM;have e:[x].all aT=true:=by simp[i]
 rw[e] at HM;have g:Hid (nQ 11 x=if x.1≠1 then (bD,2) else (cH (decide (x.2.1=0)),0)):=aA (iN (by rw[i];decide));have HK:=aA (fun w' (h:Below w.heap.size w w')=>sX 1 _ [x] w' (f.o.on bG h));unfold aP at HK;have l:[x].all (fun z=>decide (z.1=1))=decide (x.1=1):=by simp
 rw[l] at HK;by_cases d:x.1=1
 case neg=>
  have HV:Hid (nQ 11 x=(bD,2)):=aA (by have:=g.o;rwa [iP d] at this);rw[dF d] at HK;clear h i e l A d g;go_enter func285,ntmps285;go_wp2_with fail;refine HM.o.mono ?_;rintro e w1 ⟨rfl,hb_⟩;have HB1:=qB j hb_;have k:=aA (f.o.on bG HB1.o);obtain⟨p,q,r⟩:=ER k.o;exact Xq
 rw[dX d] at HK;obtain⟨t,o⟩:∃t:Bool,decide (x.2.1=0)=t:=⟨_,rfl⟩;obtain⟨n,m⟩:∃n:Int,(if t=true then (1:Int) else 0)=n:=⟨_,rfl⟩;have HE:=aA (fun w'=>rU t w');have y:dA (cH t)=.agg #[.int .i64 1,.int .i64 n,.string ByteArray.empty]:=by unfold dA cH;simp only[m]
 unfold aP at HE;rw[y] at HE;have s:Hid (cH t=(1,n,ByteArray.empty)):=aA (by unfold cH;rw[m]);clear y m;have HV:Hid (nQ 11 x=((1,n,ByteArray.empty),0)):=aA (by have:=g.o;rwa [iN (fun h=>h d),o,s.o] at this);have C:(x.2.1==0)=t:=o;clear h i e l A d g o s;go_enter func285,ntmps285;go_wp2_with fail;refine HM.o.mono ?_;rintro e w1 ⟨rfl,hb_⟩;have HB1:=qB j hb_;have k:=aA (f.o.on bG HB1.o);obtain⟨p,q,r⟩:=ER k.o;have hb1:b<w1.heap.size:=lL hbl HB1.o.size;replace B0:=qK B0 hb_;obtain⟨⟨B00,B01,B02⟩,_⟩:=cE B0.o;have zB0:=aD B0.o;clear hb_ HM;go_wp2_with fail;refine(HK.o _ HB1.o).mono ?_;rintro e w2 ⟨rfl,hb_⟩;have HB2:=qB HB1 hb_;have B:=aA (f.o.on bG HB2.o);clear p q r;obtain⟨p,q,r⟩:=ER B.o
 try clear B00 B01 B02 zB0
 replace B0:=qK B0 hb_;obtain⟨⟨B00,B01,B02⟩,_⟩:=cE B0.o;have zB0:=aD B0.o;clear hb_ HK;exact QAu
theorem Xs{p:Prop}(h:p:=by
 go_wp2;go_returns;exact⟨by rw[HE.o];rfl,aC (aB _ _) (aB _ _)⟩):p:=h
theorem yK(x y:V3)(w:World):Sem.run prog (binOp .neq 44 (.agg #[.int .i64 x.1,.int .i64 x.2.1,.string x.2.2]) (.agg #[.int .i64 y.1,.int .i64 y.2.1,.string y.2.2])) w=.ok (.bool (!decide (x=y))) w:=by
 obtain⟨x0,x1,x2⟩:=x;obtain⟨y0,y1,y2⟩:=y;have u3:=underlying3;have a3:=isAgg3;have z3:=sizeOf3;have u9:=underlying9;have a9:=isAgg9;have z9:=sizeOf9;have a:prog.underlying 44=some (.struct (prog.fieldsOf 44)):=by kernel_rfl
 have hp:prog.stoodInHeld 44=false:=by kernel_rfl
 rw[run_neq_struct,show (10000:Nat)=9999+1 from rfl,run_equalIn_agg w 9999 44 _ _ a hp];exact QCk
theorem oY(x y:Op)(w:World):Sem.run prog (binOp .eql 46 (eT x) (eT y)) w=.ok (.bool (decide (x=y))) w:=by
 obtain⟨n,o,r,s,t,⟨d,e,f⟩,v,z,p,q⟩:=x;obtain⟨A,B,E,F,G,⟨g,i,j⟩,H,I,C,D⟩:=y;unfold eT bW;have u3:=underlying3;have a3:=isAgg3;have z3:=sizeOf3;have u9:=underlying9;have a9:=isAgg9;have z9:=sizeOf9;have u4:=underlying4;have a4:=isAgg4;have z4:=sizeOf4;have J:=isAgg44;have L:=sizeOf44;have k:prog.underlying 46=some (.struct (prog.fieldsOf 46)):=by kernel_rfl
 have hp:prog.stoodInHeld 46=false:=by kernel_rfl
 have l:prog.underlying 44=some (.struct (prog.fieldsOf 44)):=by kernel_rfl
 have m:prog.stoodInHeld 44=false:=by kernel_rfl
 have K:∀w,Sem.run prog (Op.equalIn 9999 44 (.agg #[.int .i64 d,.int .i64 e,.string f]) (.agg #[.int .i64 g,.int .i64 i,.string j])) w=.ok (decide (d=g/\e=i/\f=j)) w:=fun w=>by
  rw[show (9999:Nat)=9998+1 from rfl,run_equalIn_agg w 9998 44 _ _ l m];simp only[Program.fieldsOf,underlying44];go_simp;by_cases h1:d=g<;>by_cases h2:e=i<;>by_cases h3:f=j<;>simp[h1,h2,h3,CT]
 rw[run_eql_struct,show (10000:Nat)=9999+1 from rfl,run_equalIn_agg w 9999 46 _ _ k hp];simp only[Program.fieldsOf,underlying46];go_simp;simp only[CT];by_cases h0:n=A
 case neg=>simp[h0]
 rw[iP h0];by_cases h1:o=B
 case neg=>simp[h1]
 rw[iP h1];by_cases h2:r=E
 case neg=>simp[h2]
 rw[iP h2];by_cases h3:s=F
 case neg=>simp[h3]
 rw[iP h3];by_cases h4:t=G
 case neg=>simp[h4]
 rw[iP h4];by_cases h5:d=g/\e=i/\f=j
 case neg=>
  rw[iP (fun a b c=>h5 ⟨a,b,c⟩)];have h6:(decide (d=g)&&(decide (e=i)&&decide (f=j)))=false:=by rw[Bool.eq_false_iff];simpa using h5
  simp[h6]
 obtain⟨h5,h6,h7⟩:=h5;rw[iN (fun h=>h h5 h6 h7)];by_cases h8:v=H
 case neg=>simp[h8]
 rw[iP h8];by_cases h9:z=I
 case neg=>simp[h9]
 rw[iP h9];by_cases h10:p=C
 case neg=>simp[h10]
 rw[iP h10];by_cases h11:q=D
 case neg=>simp[h11]
 rw[iP h11];simp[h0,h1,h2,h3,h4,h5,h6,h7,h8,h9,h10,h11]
theorem Oj(o:Op)(w:World):Calls prog 77 #[eT o] w (aP (eT (RH o)) w):=by
 obtain⟨k,su,a,b,d,⟨v1,v2,v3⟩,c,e,g,f⟩:=o;unfold aP eT bW RH;dsimp only;go_enter func77,ntmps77;go_wp2;refine bR (.agg #[.int .i64 k,.string ⟨#[]⟩,.string a,.string b,.string d,.int .i64 v1,.int .i64 v2,.string v3,.int .i64 c,.string e,.string ⟨#[]⟩,.bool false]) ?_;refine⟨rfl,?_⟩
 repeat (refine Below.setCell ?_ (by first|exact lR _|exact Nat.le_succ _) _)
 exact aC (aB _ _) (aB _ _)
end Go.Proofs.YtlfngkelmbdehaaGreatDoor
