/- Lemmas. -/
import Derived.Test.YtlfngkelmbdehaaGreatDoorMbq
import Derived.Lib.FrozenHead2
import Derived.Lib.OthersKept
namespace Go.Proofs.YtlfngkelmbdehaaGreatDoor
open Go.RowKit
set_option linter.unusedVariables false
set_option linter.unusedSimpArgs false
set_option maxHeartbeats 16000000
open _root_.Go.Proofs.Tryz
set_option maxRecDepth 20000
theorem QBs{p:Prop}(h:p:=by
 obtain⟨⟨q0,q1,q2,q3,q4,q5,q6,q7,q8,q9,q10,q11⟩,-⟩:=bL HRE.o;refine bR (.tuple #[.agg #[.int .i64 0,.string ⟨#[]⟩,.string ⟨#[]⟩,.string ⟨#[]⟩,.string ⟨#[]⟩,.int .i64 0,.int .i64 0,.string ⟨#[]⟩,.int .i64 0,.string ⟨#[]⟩,.string ⟨#[]⟩,.bool false],.bool false]) ?_;exact Ql HN.o HBE.o):p:=h
theorem En(l:lU):0<=oG l/\oG l<=8:=by
 unfold oG;dsimp only;split
 .omega
 .decide
theorem WB(l:lU):0<=jE l/\jE l<=1000000000:=by
 by_cases h:l=[]\/9<l.length\/l.head?=some 48\/l.all bA=false
 .rw[sD h];decide
 .have h1:=(LP h).1;simp only[not_or] at h;obtain⟨_,h2,_,h4⟩:=h;have a:∀c∈l,bA c=true:=by simpa using h4
  have b:=NA l 0 a;have hp:10 ^ l.length<=10 ^ 9:=Nat.pow_le_pow_right qe qo;have:pQ l<(0+1) * 10 ^ l.length:=b;rw[h1];omega
theorem YO(l:lU):Lib.hasPrefix l [33]=true->∃r,l=33 ::r:=by
 unfold Lib.hasPrefix;intro h
 rcases l with _|⟨c,r⟩
 .simp[List.isPrefixOf] at h
 .simp[List.isPrefixOf] at h;exact⟨r,by rw[h]⟩
def DU(o:Option Op)(w:World)(e:Ending)(w':World):Prop:=(∀v,o=some v->kE v)/\e=.returned (.tuple #[eT (o.getD SL),.bool o.isSome])/\Below w.heap.size w w'
theorem tD{k d:Int}{su a b e f c:bY}{v:V3}{g:Bool}(l:bK k)(n:su.size<=1000000)(i:a.size<=1000000)(j:b.size<=1000000)(o:e.size<=1000000)(p:cR v)(m:bK d)(q:f.size<=1000000)(he:c.size<=1000000):kE ⟨k,su,a,b,e,v,d,f,c,g⟩:=⟨l,n,i,j,o,p,m,q,he⟩
theorem Ql{o:Option Op}{w w':World}(h:o=none)(a:Below w.heap.size w w'):DU o w (.returned (.tuple #[.agg #[.int .i64 0,.string ⟨#[]⟩,.string ⟨#[]⟩,.string ⟨#[]⟩,.string ⟨#[]⟩,.int .i64 0,.int .i64 0,.string ⟨#[]⟩,.int .i64 0,.string ⟨#[]⟩,.string ⟨#[]⟩,.bool false],.bool false])) w':=by subst h;exact⟨fun v h=>(by cases h),rfl,a⟩
theorem Qm{o:Option Op}{w w':World}{a:Op}(h:o=some a)(c:kE a)(b:Below w.heap.size w w'):DU o w (.returned (.tuple #[.agg #[.int .i64 a.aCF,.string a.aCT,.string a.aCK,.string a.aCY,.string a.to_,.int .i64 a.val.1,.int .i64 a.val.2.1,.string a.val.2.2,.int .i64 a.aC0,.string a.text,.string a.aC2,.bool a.aC7],.bool true])) w':=by
 subst h;exact⟨fun u h=>by injection h with h;rw[<-h];exact c,rfl,b⟩
abbrev LQ:Array Value:=#[.int .i64 0,.string ⟨#[]⟩,.string ⟨#[]⟩,.string ⟨#[]⟩,.string ⟨#[]⟩,.int .i64 0,.int .i64 0,.string ⟨#[]⟩,.int .i64 0,.string ⟨#[]⟩,.string ⟨#[]⟩,.bool false]
theorem PQ(s:bY)(hs:s.size<=100000)(w:World)(hg:Gl w):Calls prog 8 #[.string s] w (DU (kU s.data.toList) w):=by
 obtain⟨O,hO⟩:=xE (kU s.data.toList);rw[<-hO];rw[Am] at hO;obtain⟨W0,aq⟩:=xE ((w.alloc (.cells LQ 46)).alloc (.cells LQ 46));have bk:Below w.heap.size w W0:=by rw[aq];exact aC (aB _ _) (aB _ _)
 have R:Hid (W0.heap[w.heap.size]? =some (.cells LQ 46 (0,0))):=aA (by rw[aq];exact aE (aK _ _ _ rfl) (aB _ _));have B:Hid (W0.heap[w.heap.size+1]? =some (.cells LQ 46 (0,0))):=aA (by rw[aq];exact aK _ _ _ qs);have cm:s.data.toList.length=s.size:=by rw[Array.length_toList];rfl
 have bm:=sE s.data.toList;have av:=aA (qR s hs W0 (hg.on bk));have aa:=aA (fun w' (N:Below w.heap.size w w')=>hg.on N);have cr:=aA bk;have cv:=aA aq;unfold rP at av;clear bk aq hg;generalize cN s.data.toList=c0 at *;obtain⟨su,U⟩:=c0;dsimp only at hO av bm;have aw:=aA (And.intro hs (And.intro cm bm));have Q:=aA hO;clear hs cm bm hO;go_enter func8,ntmps8;go_upto_region 1 with (fail)
 go_upto_region 2 with (fail)
 rw[<-cv.o];go_wp2_with fail;refine av.o.mono ?_;rintro e w1 ⟨rfl,ax⟩;replace B:=qK B ax;have bq:=qB cr ax;replace R:=qK R ax;clear ax av;obtain⟨⟨b0,b1,b2,F,G,b5,b6,b7,H,I,D,E⟩,i,j,o,p,q,t,x,y,z,A,l,m⟩:=bL B.o;have J:=aD B.o;go_upto_region 4 with (fail)
 generalize bo:w1.setCell _ _=w2;have B2:Hid (w2.heap[w.heap.size+1]? =some (.cells #[.int .i64 0,.string (bs su),.string ⟨#[]⟩,.string ⟨#[]⟩,.string ⟨#[]⟩,.int .i64 0,.int .i64 0,.string ⟨#[]⟩,.int .i64 0,.string ⟨#[]⟩,.string ⟨#[]⟩,.bool false] 46 (0,0))):=aA (by rw[<-bo];exact aG B.o 1 _);have bh:Hid (aN (fun b=>b≠w.heap.size+1) w1 w2):=aA (by rw[<-bo];exact aI _);have bd:Hid (Below w.heap.size w w2):=aA (((aJ (ok:=fun b=>b<w.heap.size) bq.o).trans (bh.o.mono fun b _ N=>by omega)).below (fun k P=>⟨P,P⟩));have T:¬w.heap.size=w.heap.size+1:=qo;have R2:=qS R bh.o T;clear b0 b1 b2 F G b5 b6 b7 H I D E i j o p q t x y z A l m J;clear bo B R bq bh;go_wp2_with fail;refine(strings_HasPrefix (bs U) ⟨#[33]⟩ w2).mono ?_;rintro e w3 ⟨rfl,ai⟩;rw[ai];clear ai w3;rw[show Lib.hasPrefix (bs U).data.toList (⟨#[33]⟩:bY).data.toList=Lib.hasPrefix U [33] from rfl];obtain⟨pb,bn⟩:=xE (Lib.hasPrefix U [33]);rw[<-bn];have cd:=aA bn;clear bn;obtain⟨⟨b0,b1,b2,F,G,b5,b6,b7,H,I,D,E⟩,i,j,o,p,q,t,x,y,z,A,l,m⟩:=bL B2.o;have J:=aD B2.o;go_upto_if 14 with (fail)
 go_cut [0] from 15 to 22 (fun v w'=>v=.string (bs (jU U).2.2)/\Hid (w'.heap[w.heap.size+1]? =some (.cells #[.int .i64 0,.string (bs su),.string ⟨#[]⟩,.string ⟨#[]⟩,.string ⟨#[]⟩,.int .i64 0,.int .i64 0,.string ⟨#[]⟩,.int .i64 0,.string ⟨#[]⟩,.string (bs (jU U).2.1),.bool (jU U).1] 46 (0,0)))/\Hid (w'.heap[w.heap.size]? =some (.cells LQ 46 (0,0)))/\Hid (Below w.heap.size w w'))
 case first=>
  cases pb
  .have hh:jU U=(false,[],U):=by
    have hp:=cd.o;unfold jU;split
    .rename_i r;simp[Lib.hasPrefix,List.isPrefixOf] at hp
    .rfl
   have HH:=aA hh;clear hh;go_wp2
   all_goals go_meet
   all_goals (rw[HH.o];exact⟨rfl,B2,R2,bd⟩)
  .obtain⟨r,rfl⟩:=YO U cd.o.symm;have bj:=aA (fun w' (N:Below w.heap.size w w')=>qR (bs r) (by have:=aw.o;simp only[List.length_cons] at this;rw[cG];omega) w' (aa.o w' N));unfold rP at bj;rw[mK] at bj;have cy:1<=(bs (33 ::r)).size:=by rw[cG];simp
   have c7:(1:Int)<=((bs (33 ::r)).size:Int):=qo;have c8:(bs (33 ::r)).extract 1 (bs (33 ::r)).size=bs r:=by
    rw[<-FD ((bs (33 ::r)).extract 1 (bs (33 ::r)).size),yD _ 1 cy];rfl
   go_upto_region 6 with (fail)
   generalize ai:w2.setCell _ _=w3;have B3:Hid (w3.heap[w.heap.size+1]? =some (.cells #[.int .i64 0,.string (bs su),.string ⟨#[]⟩,.string ⟨#[]⟩,.string ⟨#[]⟩,.int .i64 0,.int .i64 0,.string ⟨#[]⟩,.int .i64 0,.string ⟨#[]⟩,.string ⟨#[]⟩,.bool true] 46 (0,0))):=aA (by rw[<-ai];exact aG B2.o 11 _);have cg:Hid (aN (fun b=>b≠w.heap.size+1) w2 w3):=aA (by rw[<-ai];exact aI _);have br:Hid (Below w.heap.size w w3):=aA (((aJ (ok:=fun b=>b<w.heap.size) bd.o).trans (cg.o.mono fun b _ N=>by omega)).below (fun k P=>⟨P,P⟩));have R3:=qS R2 cg.o T;clear ai;clear b0 b1 b2 F G b5 b6 b7 H I D E i j o p q t x y z A l m J;go_wp2_with fail;refine(bj.o w3 br.o).mono ?_;rintro e w4 ⟨rfl,ay⟩;obtain⟨B4,R4,ct⟩:=aY (aE B3.o ay) (aE R3.o ay) (aC br.o ay);clear ay;obtain⟨⟨b0,b1,b2,F,G,b5,b6,b7,H,I,D,E⟩,i,j,o,p,q,t,x,y,z,A,l,m⟩:=bL B4.o;have J:=aD B4.o;go_wp2
   all_goals go_meet
   all_goals exact⟨rfl,aA (aG B4.o 10 _),aA (aF R4.o (aI _) T),aA (ct.o.setCell (Nat.le_succ _) _)⟩
 case rest=>
 obtain⟨hv,B5,R5,be⟩:=hcut;subst hv;have cl:=An U;generalize jU U=hd at *;obtain⟨M,K,r1⟩:=hd;dsimp only at cl B5 Q;have ch:=sE r1;have ak:=aA (fun w' (N:Below w.heap.size w w')=>qR (bs r1) (by have:=aw.o;rw[cG];omega) w' (aa.o w' N));unfold rP at ak;rw[mK] at ak;generalize cN r1=c1 at *;obtain⟨wd,d⟩:=c1;dsimp only at ak Q ch;have bz:Hid (su.length<=100000/\K.length<=100000/\d.length<=100000):=aA (qA aw.o);have cz:=En wd;have HK:=aA (fun w'=>Qj (bs wd) w');rw[mK] at HK;unfold aP at HK;generalize oG wd=k at *;clear cl ch aw R2 bd B2;go_wp2_with fail;refine(ak.o wc be.o).mono ?_;rintro e w6 ⟨rfl,az⟩;obtain⟨B6,R6,bt⟩:=aY (aE B5.o az) (aE R5.o az) (aC be.o az);clear az B5 R5 be ak;go_wp2_with fail;refine(HK.o w6).mono ?_;rintro e w7 ⟨rfl,a1⟩;obtain⟨B7,R7,bu⟩:=aY (aE B6.o a1) (aE R6.o a1) (aC bt.o a1);clear a1 B6 R6 bt HK;obtain⟨⟨b0,b1,b2,F,G,b5,b6,b7,H,I,D,E⟩,i,j,o,p,q,t,x,y,z,A,l,m⟩:=bL B7.o;have J:=aD B7.o;go_upto_region 9 with (fail)
 generalize a8:w7.setCell _ _=w8;have Z:Hid (w8.heap[w.heap.size+1]? =some (.cells #[.int .i64 k,.string (bs su),.string ⟨#[]⟩,.string ⟨#[]⟩,.string ⟨#[]⟩,.int .i64 0,.int .i64 0,.string ⟨#[]⟩,.int .i64 0,.string ⟨#[]⟩,.string (bs K),.bool M] 46 (0,0))):=aA (by rw[<-a8];exact aG B7.o 0 _);have R8:=aA (show w8.heap[w.heap.size]? =some (.cells LQ 46 (0,0)) from by rw[<-a8];exact aF R7.o (aI _) T);have V:=aA (show Below w.heap.size w w8 from by rw[<-a8];exact bu.o.setCell (Nat.le_succ _) _);clear b0 b1 b2 F G b5 b6 b7 H I D E i j o p q t x y z A l m J;clear a8 B7 R7 bu;obtain⟨⟨b0,b1,b2,F,G,b5,b6,b7,H,I,D,E⟩,i,j,o,p,q,t,x,y,z,A,l,m⟩:=bL Z.o;have J:=aD Z.o;go_upto_region 10 with (fail)
 rename_i K1 bl K2 cw;have HJ:∀(a:Act) (w':World) (g:Op) (au:Bool),a={tmps:=#[gT a 0,gT a 1,.pointer (some ⟨w.heap.size,0,none⟩),gT a 3,.pointer (some ⟨w.heap.size+1,0,none⟩),gT a 5,.bool au,gT a 7,gT a 8,gT a 9,gT a 10,gT a 11,gT a 12,gT a 13,gT a 14,gT a 15,gT a 16,gT a 17,gT a 18,gT a 19,gT a 20,gT a 21,gT a 22,gT a 23,gT a 24,gT a 25,gT a 26,gT a 27,gT a 28,gT a 29,gT a 30,gT a 31,gT a 32,gT a 33,gT a 34,gT a 35,gT a 36,gT a 37,gT a 38,gT a 39,gT a 40,gT a 41,gT a 42,gT a 43,gT a 44,gT a 45,gT a 46,gT a 47,gT a 48,gT a 49,gT a 50,gT a 51,gT a 52,gT a 53,gT a 54,gT a 55,gT a 56,gT a 57,gT a 58,gT a 59,gT a 60,gT a 61,gT a 62,gT a 63,gT a 64,gT a 65,gT a 66,gT a 67,gT a 68,gT a 69,gT a 70,gT a 71,gT a 72,gT a 73,gT a 74,gT a 75,gT a 76,gT a 77,gT a 78,gT a 79,gT a 80,gT a 81,gT a 82,gT a 83,gT a 84,gT a 85,gT a 86,gT a 87,gT a 88,gT a 89,gT a 90,gT a 91,gT a 92,gT a 93,gT a 94],defers:=[]}->Hid (w'.heap[w.heap.size+1]? =some (.cells (rC g) 46 (0,0)))->Hid (w'.heap[w.heap.size]? =some (.cells LQ 46 (0,0)))->Hid (Below w.heap.size w w')->Hid (O=vD (if au=true then some g else none))->Hid (kE g)->K1 a w':=by
  intro a w' g au ha HO HR bp cc bx;obtain⟨u,hu⟩:∃u:Nat->Value,a={tmps:=#[u 0,u 1,.pointer (some ⟨w.heap.size,0,none⟩),u 3,.pointer (some ⟨w.heap.size+1,0,none⟩),u 5,.bool au,u 7,u 8,u 9,u 10,u 11,u 12,u 13,u 14,u 15,u 16,u 17,u 18,u 19,u 20,u 21,u 22,u 23,u 24,u 25,u 26,u 27,u 28,u 29,u 30,u 31,u 32,u 33,u 34,u 35,u 36,u 37,u 38,u 39,u 40,u 41,u 42,u 43,u 44,u 45,u 46,u 47,u 48,u 49,u 50,u 51,u 52,u 53,u 54,u 55,u 56,u 57,u 58,u 59,u 60,u 61,u 62,u 63,u 64,u 65,u 66,u 67,u 68,u 69,u 70,u 71,u 72,u 73,u 74,u 75,u 76,u 77,u 78,u 79,u 80,u 81,u 82,u 83,u 84,u 85,u 86,u 87,u 88,u 89,u 90,u 91,u 92,u 93,u 94],defers:=[]}:=⟨fun n=>a.tmps.getD n undef,ha⟩;subst hu;clear ha;refine bl _ _ ?_;clear bl cw b0 b1 b2 F G b5 b6 b7 H I D E i j o p q t x y z A l m J;obtain⟨⟨o0,o1,o2,o3,o4,o5,o6,o7,o8,o9,cp,cq⟩,-⟩:=bL HO.o;have zo:=aD HO.o
  cases au
  .have HN:Hid (O=none):=aA cc.o;go_upto_region 27 with (fail)
   go_wp2_with (refine fA rfl _ (.tmp 2) (.tmp 93) rfl w.heap.size _ rfl rfl _ _ HR.o (by kernel_rfl) rfl (by simp[Value.oneCell']) ?_;intro wE HRE ao)
   have HBE:=aA (((aJ (ok:=fun b=>b<w.heap.size) bp.o).trans (ao.o.mono fun b _ N=>by show (_:Nat)≠_;omega)).below (B:=w.heap.size) (fun k P=>⟨P,P⟩));exact QBs
  .have af:=TX g bx.o w';unfold eT bW aP at af;have af:=aA af;have cb:Hid (O=if gO g=true then some g else none):=aA cc.o;go_upto_if 92 with (go_at_call 19;refine af.o.mono ?_;rintro e w9 ⟨rfl,c⟩)
   obtain⟨ca,cf,W⟩:=aY (aE HO.o c) (aE HR.o c) (aC bp.o c);clear c o0 o1 o2 o3 o4 o5 o6 o7 o8 o9 cp cq zo;obtain⟨⟨o0,o1,o2,o3,o4,o5,o6,o7,o8,o9,cp,cq⟩,-⟩:=bL ca.o;have zo:=aD ca.o
   cases hf:gO g
   .have HN:Hid (O=none):=aA (by have h:=cb.o;rw[hf] at h;exact h);clear hf;go_upto_region 27 with (fail)
    go_wp2_with (refine fA rfl _ (.tmp 2) (.tmp 93) rfl w.heap.size _ rfl rfl _ _ cf.o (by kernel_rfl) rfl (by simp[Value.oneCell']) ?_;intro wE HRE ao)
    have HBE:=aA (((aJ (ok:=fun b=>b<w.heap.size) W.o).trans (ao.o.mono fun b _ N=>by show (_:Nat)≠_;omega)).below (B:=w.heap.size) (fun k P=>⟨P,P⟩));exact QBs
   .have HN:Hid (O=some g):=aA (by have h:=cb.o;rw[hf] at h;exact h);clear hf;go_upto_region 28 with (fail)
    go_wp2_with (refine fA rfl _ (.tmp 2) (.tmp 94) rfl w.heap.size _ rfl rfl _ _ cf.o (by kernel_rfl) rfl (by simp[Value.oneCell']) ?_;intro wE HRE ao)
    have HBE:=aA (((aJ (ok:=fun b=>b<w.heap.size) W.o).trans (ao.o.mono fun b _ N=>by show (_:Nat)≠_;omega)).below (B:=w.heap.size) (fun k P=>⟨P,P⟩));obtain⟨⟨q0,q1,q2,q3,q4,q5,q6,q7,q8,q9,q10,q11⟩,-⟩:=bL HRE.o;refine bR (.tuple #[.agg #[.int .i64 g.aCF,.string g.aCT,.string g.aCK,.string g.aCY,.string g.to_,.int .i64 g.val.1,.int .i64 g.val.2.1,.string g.val.2.2,.int .i64 g.aC0,.string g.text,.string g.aC2,.bool g.aC7],.bool true]) ?_;exact Qm HN.o bx.o HBE.o
 clear bl;have C:(ByteArray.empty).size<=1000000:=qe;have ad:cR bD:=⟨⟨qe,qe⟩,⟨qe,qe⟩,qe⟩;have ah:bK 0:=⟨qe,qe⟩;have cn:(bs d).size<=1000000:=by have:=bz.o;rw[cG];omega
 have c6:=bz.o;by_cases k1:k=1
 .subst k1;go_wp2;exact HJ _ _ (⟨1,bs su,bs d,ByteArray.empty,ByteArray.empty,bD,0,ByteArray.empty,bs K,M⟩:Op) true rfl (aA (aG Z.o 2 _)) (aA (aF R8.o (aI _) T)) (aA (V.o.setCell (Nat.le_succ _) _)) (aA Q.o) (aA (tD ⟨qe,qe⟩ (by rw[cG];omega) cn C C ad ah C (by rw[cG];omega)))
 have d1:(k==1)=false:=bN.2 k1;by_cases aj:k=2\/k=6
 .have ab:=sE d;have f:=qR (bs d) (by rw[cG];omega) w8 (aa.o _ V.o);unfold rP at f;rw[mK] at f;have S:Hid (O=vD (some (⟨k,bs su,bs (cN d).1,bs (cN d).2,ByteArray.empty,bD,0,ByteArray.empty,bs K,M⟩:Op))):=aA (by have h:=Q.o;unfold AQ at h;rw[iN k1,iP aj] at h;exact h);generalize cN d=c2 at *;obtain⟨X,Y⟩:=c2;dsimp only at f S ab;have f:=aA f;have HX:Hid ((bs X).size<=1000000/\(bs Y).size<=1000000):=aA (by rw[cG,cG];omega);have ag:Hid (bK k):=aA ⟨qo,qo⟩;clear ab Q
  rcases aj with rfl|rfl
  all_goals
   go_wp2_with fail;refine f.o.mono ?_;rintro e w9 ⟨rfl,c⟩;obtain⟨L,R9,W⟩:=aY (aE Z.o c) (aE R8.o c) (aC V.o c);clear c b0 b1 b2 F G b5 b6 b7 H I D E i j o p q t x y z A l m J;obtain⟨⟨b0,b1,b2,F,G,b5,b6,b7,H,I,D,E⟩,i,j,o,p,q,t,x,y,z,A,l,m⟩:=bL L.o;have J:=aD L.o;go_wp2;exact HJ _ _ (⟨_,bs su,bs X,bs Y,ByteArray.empty,bD,0,ByteArray.empty,bs K,M⟩:Op) true rfl (aA (aG (aG L.o 2 _) 3 _)) (aA (aF R9.o ((aI _).trans (aI _)) T)) (aA ((W.o.setCell (Nat.le_succ _) _).setCell (Nat.le_succ _) _)) (aA S.o) (aA (tD ag.o (by rw[cG];omega) HX.o.1 HX.o.2 C ad ah C (by rw[cG];omega)))
 have d2:(k==2)=false:=bN.2 (fun e=>aj (.inl e));have d6:(k==6)=false:=bN.2 (fun e=>aj (.inr e));by_cases k3:k=3
 .subst k3;have ab:=sE d;have f:=qR (bs d) (by rw[cG];omega) w8 (aa.o _ V.o);unfold rP at f;rw[mK] at f;have S:Hid (O=vD ((oQ (cN (cN d).2).2).map (fun v=>(⟨3,bs su,bs (cN d).1,bs (cN (cN d).2).1,ByteArray.empty,v,0,ByteArray.empty,bs K,M⟩:Op)))):=aA Q.o;generalize cN d=c2 at *;obtain⟨X,r3⟩:=c2;dsimp only at f S ab;have cj:=sE r3;have ae:=fun w' (N:Below w.heap.size w w')=>qR (bs r3) (by rw[cG];omega) w' (aa.o _ N)
  unfold rP at ae;rw[mK] at ae;generalize cN r3=c3 at *;obtain⟨Y,r4⟩:=c3;dsimp only at ae S cj;have al:=fun w' (N:Below w.heap.size w w')=>YN (bs r4) w' (aa.o _ N).aDC
  rw[mK] at al;generalize oQ r4=lo at *;obtain⟨f,ae,al⟩:=aY f ae al;have HX:Hid ((bs X).size<=1000000/\(bs Y).size<=1000000):=aA (by rw[cG,cG];omega);clear ab cj Q;go_wp2_with fail;refine f.o.mono ?_;rintro e w9 ⟨rfl,c⟩;obtain⟨L,R9,W⟩:=aY (aE Z.o c) (aE R8.o c) (aC V.o c);clear c f b0 b1 b2 F G b5 b6 b7 H I D E i j o p q t x y z A l m J;obtain⟨⟨b0,b1,b2,F,G,b5,b6,b7,H,I,D,E⟩,i,j,o,p,q,t,x,y,z,A,l,m⟩:=bL L.o;have J:=aD L.o;go_upto_region 17 with (fail)
  generalize ba:w9.setCell _ _=wa;have BA:Hid (wa.heap[w.heap.size+1]? =some (.cells #[.int .i64 3,.string (bs su),.string (bs X),.string ⟨#[]⟩,.string ⟨#[]⟩,.int .i64 0,.int .i64 0,.string ⟨#[]⟩,.int .i64 0,.string ⟨#[]⟩,.string (bs K),.bool M] 46 (0,0))):=aA (by rw[<-ba];exact aG L.o 2 _);have RA:=aA (show wa.heap[w.heap.size]? =some (.cells LQ 46 (0,0)) from by rw[<-ba];exact aF R9.o (aI _) T);have bf:=aA (show Below w.heap.size w wa from by rw[<-ba];exact W.o.setCell (Nat.le_succ _) _);clear ba b0 b1 b2 F G b5 b6 b7 H I D E i j o p q t x y z A l m J;go_wp2_with fail;refine(ae.o wa bf.o).mono ?_;rintro e wb ⟨rfl,a6⟩;obtain⟨BB,RB,bw⟩:=aY (aE BA.o a6) (aE RA.o a6) (aC bf.o a6);clear a6 ae BA RA bf L R9 W;obtain⟨⟨b0,b1,b2,F,G,b5,b6,b7,H,I,D,E⟩,i,j,o,p,q,t,x,y,z,A,l,m⟩:=bL BB.o;have J:=aD BB.o;go_upto_region 18 with (fail)
  generalize bb:wb.setCell _ _=bc;have BD:Hid (bc.heap[w.heap.size+1]? =some (.cells #[.int .i64 3,.string (bs su),.string (bs X),.string (bs Y),.string ⟨#[]⟩,.int .i64 0,.int .i64 0,.string ⟨#[]⟩,.int .i64 0,.string ⟨#[]⟩,.string (bs K),.bool M] 46 (0,0))):=aA (by rw[<-bb];exact aG BB.o 3 _);have RD:=aA (show bc.heap[w.heap.size]? =some (.cells LQ 46 (0,0)) from by rw[<-bb];exact aF RB.o (aI _) T);have bg:=aA (show Below w.heap.size w bc from by rw[<-bb];exact bw.o.setCell (Nat.le_succ _) _);clear bb b0 b1 b2 F G b5 b6 b7 H I D E i j o p q t x y z A l m J BB RB bw;go_wp2_with fail;refine(al.o bc bg.o).mono ?_;rintro e we ⟨ck,rfl,a7⟩;obtain⟨BE,RE,HBE⟩:=aY (aE BD.o a7) (aE RD.o a7) (aC bg.o a7);have af:Hid (O=vD (if lo.isSome=true then some (⟨3,bs su,bs X,bs Y,ByteArray.empty,(lo.getD bD),0,ByteArray.empty,bs K,M⟩:Op) else none)):=aA (by
   rw[S.o]
   cases lo
   .rfl
   .rfl)
  have cu:Hid (cR (lo.getD bD)):=aA (by
   cases lo
   .exact ad
   .exact ck _ rfl)
  generalize lo.getD bD=lv at *;generalize lo.isSome=ls at *;unfold dA;clear a7 al BD RD bg ck;obtain⟨⟨b0,b1,b2,F,G,b5,b6,b7,H,I,D,E⟩,i,j,o,p,q,t,x,y,z,A,l,m⟩:=bL BE.o;have J:=aD BE.o;go_wp2;exact HJ _ _ (⟨3,bs su,bs X,bs Y,ByteArray.empty,lv,0,ByteArray.empty,bs K,M⟩:Op) ls rfl (aA (aG (aG (aG BE.o 5 _) 6 _) 7 _)) (aA (aF RE.o (((aI _).trans (aI _)).trans (aI _)) T)) (aA (((HBE.o.setCell (Nat.le_succ _) _).setCell (Nat.le_succ _) _).setCell (Nat.le_succ _) _)) af (aA (tD ⟨qe,qe⟩ (by rw[cG];omega) HX.o.1 HX.o.2 C cu.o ah C (by rw[cG];omega)))
 have d3:(k==3)=false:=bN.2 k3;by_cases k4:k=4
 .have ab:=sE d;have f:=qR (bs d) (by rw[cG];omega) w8 (aa.o _ V.o);unfold rP at f;rw[mK] at f;subst k4;have S:Hid (O=vD (some (⟨4,bs su,bs (cN d).1,ByteArray.empty,bs (cN d).2,bD,0,ByteArray.empty,bs K,M⟩:Op))):=aA Q.o;generalize cN d=c2 at *;obtain⟨X,Y⟩:=c2;dsimp only at f S ab;have f:=aA f;have HX:Hid ((bs X).size<=1000000/\(bs Y).size<=1000000):=aA (by rw[cG,cG];omega);clear ab Q;go_wp2_with fail;refine f.o.mono ?_;rintro e w9 ⟨rfl,c⟩;obtain⟨L,R9,W⟩:=aY (aE Z.o c) (aE R8.o c) (aC V.o c);clear c b0 b1 b2 F G b5 b6 b7 H I D E i j o p q t x y z A l m J;obtain⟨⟨b0,b1,b2,F,G,b5,b6,b7,H,I,D,E⟩,i,j,o,p,q,t,x,y,z,A,l,m⟩:=bL L.o;have J:=aD L.o;go_wp2;exact HJ _ _ (⟨4,bs su,bs X,ByteArray.empty,bs Y,bD,0,ByteArray.empty,bs K,M⟩:Op) true rfl (aA (aG (aG L.o 2 _) 4 _)) (aA (aF R9.o ((aI _).trans (aI _)) T)) (aA ((W.o.setCell (Nat.le_succ _) _).setCell (Nat.le_succ _) _)) (aA S.o) (aA (tD ⟨qe,qe⟩ (by rw[cG];omega) HX.o.1 C HX.o.2 ad ah C (by rw[cG];omega)))
 have d4:(k==4)=false:=bN.2 k4;by_cases ar:k=5\/k=8
 .have an:=Em (bs d) (by rw[cG];omega) w8 (aa.o _ V.o).aDC;unfold aP at an;rw[mK] at an;have cx:=WB d;have S:Hid (O=vD (some (⟨k,bs su,ByteArray.empty,ByteArray.empty,ByteArray.empty,bD,jE d,ByteArray.empty,bs K,M⟩:Op))):=aA (by have h:=Q.o;unfold AQ at h;rw[iN k1,iN aj,iN k3,iN k4,iP ar] at h;exact h);generalize jE d=nv at *;have an:=aA an;have ag:Hid (bK k/\bK nv):=aA ⟨⟨qo,qo⟩,⟨qo,qo⟩⟩;clear cx Q
  rcases ar with rfl|rfl
  all_goals
   go_wp2_with fail;refine an.o.mono ?_;rintro e w9 ⟨rfl,c⟩;obtain⟨L,R9,W⟩:=aY (aE Z.o c) (aE R8.o c) (aC V.o c);clear c b0 b1 b2 F G b5 b6 b7 H I D E i j o p q t x y z A l m J;obtain⟨⟨b0,b1,b2,F,G,b5,b6,b7,H,I,D,E⟩,i,j,o,p,q,t,x,y,z,A,l,m⟩:=bL L.o;have J:=aD L.o;go_wp2;exact HJ _ _ (⟨_,bs su,ByteArray.empty,ByteArray.empty,ByteArray.empty,bD,nv,ByteArray.empty,bs K,M⟩:Op) true rfl (aA (aG L.o 8 _)) (aA (aF R9.o (aI _) T)) (aA (W.o.setCell (Nat.le_succ _) _)) (aA S.o) (aA (tD ag.o.1 (by rw[cG];omega) C C C ad ag.o.2 C (by rw[cG];omega)))
 have d5:(k==5)=false:=bN.2 (fun e=>ar (.inl e));have d8:(k==8)=false:=bN.2 (fun e=>ar (.inr e));by_cases k7:k=7
 .subst k7;go_wp2;exact HJ _ _ (⟨7,bs su,ByteArray.empty,ByteArray.empty,ByteArray.empty,bD,0,bs d,bs K,M⟩:Op) true rfl (aA (aG Z.o 9 _)) (aA (aF R8.o (aI _) T)) (aA (V.o.setCell (Nat.le_succ _) _)) (aA Q.o) (aA (tD ⟨qe,qe⟩ (by rw[cG];omega) C C C ad ah cn (by rw[cG];omega)))
 have d7:(k==7)=false:=bN.2 k7;have S:Hid (O=vD (some (⟨k,bs su,ByteArray.empty,ByteArray.empty,ByteArray.empty,bD,0,ByteArray.empty,bs K,M⟩:Op))):=aA (by have h:=Q.o;unfold AQ at h;rw[iN k1,iN aj,iN k3,iN k4,iN ar,iN k7] at h;exact h);have ag:Hid (bK k):=aA ⟨qo,qo⟩;go_wp2;exact HJ _ _ (⟨k,bs su,ByteArray.empty,ByteArray.empty,ByteArray.empty,bD,0,ByteArray.empty,bs K,M⟩:Op) true rfl Z R8 V (aA S.o) (aA (tD ag.o (by rw[cG];omega) C C C ad ah C (by rw[cG];omega)))
theorem QDk{p:Prop}(h:p:=by
 rcases hown'.2 with ⟨_,h0⟩|⟨g,cap,cur,fz,hv,_⟩
 .omega
 .exact⟨g,cap,hv⟩):p:=h
theorem QDc{p:Prop}(h:p:=by
 rcases Nat.lt_or_ge b w1.heap.size with h'|h'
 .exact h'
 .simp[Array.getElem?_eq_none h'] at hbk):p:=h
abbrev Yn(B b:Nat)(p:Value)(l:List Value)(w:World):Prop:=Lib.BuilderAtF 219 5 B b p l w
abbrev GX(B b:Nat)(l:List Value)(w:World):Prop:=Lib.IsBuilderF 219 5 B b l w
abbrev tM(b:Nat):Value:= .pointer (some ⟨b,0,none⟩)
theorem Yo:(prog.info? 219).map (·.size)=some 2:=by kernel_rfl
theorem PU(B b:Nat)(l:List Value)(w:World)(h:GX B b l w):Calls prog 187 #[tM b] w fun e w'=>e=.returned (.tuple #[])/\Yn B b (tM b) l w'/\Below B w w':=by
 obtain⟨j,hj,c⟩:=Option.map_eq_some_iff.1 Yo
 rcases h with h|h
 .have h0:=h.cell0;have a:=h.shape;have d:=h.frozen0;go_enter func187,ntmps187;go_wp2;rw[Lib.run_to_unsafe w ⟨b,0,none⟩ underlying217 underlying315 hj (by rw[c];decide) a (Nat.zero_lt_succ 1)];simp only[Result.andThen];rw[Oper.upon_value];go_wp2;rw[run_callFunc_extern func224 (by kernel_rfl) (by kernel_rfl) (by kernel_rfl) (e:=Extern.AbiNoEscape.same) (by kernel_rfl)];rw[Lib.run_noEscape];simp only[Result.andThen];rw[Oper.upon_value];go_wp2;rw[Lib.run_from_unsafe w ⟨b,0,none⟩ underlying315 underlying217 hj a (by kernel_rfl)];simp only[Result.andThen];rw[Oper.upon_value];go_wp2;go_end0
  exact⟨rfl,h.used _,(Below.refl B w).setCell (p:=⟨b,0,none⟩) h.1 _⟩
 .have h0:=h.cell0;go_enter func187,ntmps187;go_wp2;rw[Lib.run_neq_ptr_same w _ underlying217 hj];go_wp2;go_end0
  exact⟨rfl,h,Below.refl B _⟩
theorem QW(B b:Nat)(l:List Value)(c:Int)(w:World)(h:GX B b l w)(E:l.length<=100000)(D:B<=w.heap.size):Calls prog 134 #[tM b,.int .u8 c] w fun e w'=>e=.returned .nilIface/\Yn B b (tM b) (l++[.int .u8 c]) w'/\Below B w w':=by
 obtain⟨i0,t,z,A,C⟩:=info_parts uR;have r:=aA (PU B b l w h);go_enter func134,ntmps134;go_wp2_with fail;refine r.o.mono ?_;rintro e w1 ⟨rfl,⟨m,v,hbk,i,o⟩,a⟩;have c0:w1.cell? ⟨b,0,none⟩=some (tM b):=by rw[Lib.cell_of_heap hbk];rfl
 have c1:w1.cell? ⟨b,1,none⟩=some v:=by rw[Lib.cell_of_heap hbk];rfl
 go_wp2_with (at_builtin;refine wpList_append_ownF _ rfl _ _ 63 rfl B 5 i0 (.int .u8 0) 1 1 underlying63 t z A C rfl qe _ _ _ rfl (i.alloc _) ⟨w1.heap.size,0,none⟩ 1 1 [.int .u8 c] rfl rfl ?c1 ?c2 ?c3 ?c4 ?c5 ?_)
 case c1=>
  intro j u hj
  match j,hj with
  |0,hj=>simp at hj;subst hj;simp[Addr.add]
 case c2=>intro u hu;simp at hu;subst hu;rfl
 case c3=>unfold maxLen;omega
 case c4=>omega
 case c5=>have:=a.size;simp;omega
 intro v' w2 hown' f _;have y:b<w1.heap.size:=by
  exact QDc
 have d:w2.heap[b]? =some (.cells #[tM b,v] 219 (0,0)):=by
  rw[f.block b (by simp;omega) (fun e=>o e.symm),Lib.alloc_old w1 _ b y];exact hbk
 have n:Below B w w2:=(a.alloc (qA a.size) _).grown f (by have:=a.size;simp;omega) (fun k x=>(i.lt k x).1);have s:=aA (Lib.BuilderAtF.put (T:=219) (e:=5) (v':=v') m d (bs':=l++[.int .u8 c]) (by simpa using hown') qe);have q:=aA n;have d1:w2.cell? ⟨b,1,none⟩=some v:=by rw[Lib.cell_of_heap d];rfl
 have f1:w2.frozen? ⟨b,1,none⟩=false:=Lib.frozen_of_heap d 1;obtain⟨g,cap,rfl⟩:∃g cap,v'=.slice (some ⟨g,0,none⟩) (l.length+1) cap:=by
  exact QDk
 clear n hown' f d hbk i o a;go_wp2;go_ret;exact⟨rfl,s.o,q.o.setCell (p:=⟨b,1,none⟩) m _⟩
theorem LR(B b:Nat)(l:List Value)(s:bY)(w:World)(h:GX B b l w)(D:l.length<=100000)(F:0<s.size)(E:s.size<=100000)(C:B<=w.heap.size):Calls prog 135 #[tM b,.string s] w fun e w'=>e=.returned (.tuple #[.int .i64 s.size,.nilIface])/\Yn B b (tM b) (l++Lib.strCells s) w'/\Below B w w':=by
 obtain⟨i0,r,y,z,A⟩:=info_parts uR;have o:=aA (PU B b l w h);go_enter func135,ntmps135;go_wp2_with fail;refine o.o.mono ?_;rintro e w1 ⟨rfl,⟨i,v,hbk,f,m⟩,a⟩;have c0:w1.cell? ⟨b,0,none⟩=some (tM b):=by rw[Lib.cell_of_heap hbk];rfl
 have c1:w1.cell? ⟨b,1,none⟩=some v:=by rw[Lib.cell_of_heap hbk];rfl
 go_wp2_with (at_builtin;refine Lib.wpList_append_own_stringF _ rfl _ _ 63 9 rfl B 5 i0 underlying63 underlying9 r y z A _ _ _ rfl f s rfl ?c3 ?c4 ?c5 ?_)
 case c3=>unfold maxLen;omega
 case c4=>omega
 case c5=>have:=a.size;omega
 intro v' w2 hown' d _;have x:b<w1.heap.size:=by
  exact QDc
 have c:w2.heap[b]? =some (.cells #[tM b,v] 219 (0,0)):=by
  rw[d.block b x (fun e=>m e.symm)];exact hbk
 have j:Below B w w2:=a.grown d (qA a.size) (fun k t=>(f.lt k t).1);have q:=aA (Lib.BuilderAtF.put (T:=219) (e:=5) (v':=v') i c (bs':=l++Lib.strCells s) (by rw[aL,Lib.strCells_length];exact hown') qe);have n:=aA j;have d1:w2.cell? ⟨b,1,none⟩=some v:=by rw[Lib.cell_of_heap c];rfl
 have f1:w2.frozen? ⟨b,1,none⟩=false:=Lib.frozen_of_heap c 1;obtain⟨g,cap,rfl⟩:∃g cap,v'=.slice (some ⟨g,0,none⟩) (l.length+s.size) cap:=by
  exact QDk
 clear j hown' d c hbk f m a;go_wp2;go_ret2
 exact⟨rfl,q.o,n.o.setCell (p:=⟨b,1,none⟩) i _⟩
theorem QCK{p:Prop}(h:p:=by
 rintro e w2 ⟨rfl,hb⟩;have HB2:=qB HB1 hb;clear hb;go_wp2;go_ret;exact⟨by rw[HE4.o];rfl,HB2.o⟩):p:=h
theorem Yp{p:Prop}(h:p:=by
 rintro e w2 ⟨rfl,hb⟩;have HB2:=qB HB1 hb;clear hb;go_wp2;go_ret;exact⟨by rw[HE2.o];rfl,HB2.o⟩):p:=h
theorem Sw{p:Prop}(h:p:=by
 go_upto_region 8 with (fail)
 refine qI 14 (by kernel_rfl) (by kernel_rfl) ?_;simp only[List.take_succ_cons,List.take_zero,List.drop_succ_cons,List.drop_zero]
 repeat still_step
 refine wpStill_nil ?_;go_wp2_with fail;refine HQW.o.mono ?_;rintro e w2 ⟨rfl,hi,hb⟩;have HI2:=aA (HQR.o w2 (.inr hi));have HB2:=aA (HB.o.trans (Ep.trans hb));clear hi hb HI HB HQW HQR;go_wp2;go_roundw
 case rel=>exact⟨k+1,qo,by go_num,HI2,HB2⟩
 case measure=>simp[intOf];omega):p:=h
def Eo:ByteArray:=⟨#[48,49,50,51,52,53,54,55,56,57,97,98,99,100,101,102]⟩
theorem Kz:∀k:Fin 16,Eo.extract k.val (k.val+1)=⟨#[JB k.val]⟩:=by decide +kernel
theorem DV(a b:lU):Lib.byteCells a++Lib.byteCells b=Lib.byteCells (a++b):=by unfold Lib.byteCells;rw[List.map_append]
theorem PV(l:lU):(Lib.byteCells l).length=l.length:=by unfold Lib.byteCells;rw[List.length_map]
def tE(l:lU):List UInt8:=34 ::l.flatMap uD
theorem AR(l:lU):(tE l).length<=1+3 * l.length:=by
 unfold tE;rw[List.length_cons];have h:(l.flatMap uD).length<=3 * l.length:=by
  induction l with
  |nil=>simp
  |cons c l a=>
   rw[List.flatMap_cons,aL,List.length_cons];have:(uD c).length<=3:=by unfold uD;split<;>simp
   omega
 omega
theorem PX(l:lU)(c:UInt8):tE (l++[c])=tE l++uD c:=by unfold tE;rw[List.flatMap_append,List.flatMap_cons,List.flatMap_nil,List.append_nil,List.cons_append]
theorem PY{c:UInt8}:fC c=true↔¬c.toNat<32/\¬126<c.toNat/\c.toNat≠34/\c.toNat≠92:=by
 unfold fC;simp only[Bool.and_eq_true,decide_eq_true_eq];omega
theorem Lb{s:bY}{k:Nat}(h:k<s.size):s.data.toList.take (k+1)=s.data.toList.take k++[s[k]]:=by
 rw[List.take_add_one,gE (by rw[Array.length_toList];exact h),Option.toList_some];rfl
theorem aAa:∀x:Fin 256,bits .and .u8 (x.val:Int) 15=((x.val % 16:Nat):Int):=by decide +kernel
theorem Ld:∀x:Fin 16,IntKind.u8.wrap ((x.val:Int)+1)=((x.val+1:Nat):Int):=by decide +kernel
theorem Ep{n:Nat}{w:World}:Below n w w.drew:=(Below.refl n w).drew
theorem Er(s:bY)(R:s.size<=64)(w:World):Calls prog 80 #[.string s] w (lB (.string (bs (FA s.data.toList))) w):=by
 have y:Below w.heap.size w (w.alloc (.cells #[.pointer none,.slice none 0 0] 219)):=aB _ _;have z:GX w.heap.size w.heap.size (Lib.byteCells []) (w.alloc (.cells #[.pointer none,.slice none 0 0] 219)):= .inl ⟨lR _,.slice none 0 0,aK _ _ _ rfl,World.ownsRowF_of (World.ownsRow_nil _ _ _ _),by simp[Value.ownBlock]⟩;have o:=aA (fun (l:lU) (c:UInt8) (w1:World) (h:GX w.heap.size w.heap.size (Lib.byteCells l) w1) (Q:l.length<=1000) (hb:w.heap.size<=w1.heap.size)=>QW w.heap.size w.heap.size (Lib.byteCells l) (c.toNat:Int) w1 h (by rw[PV];omega) hb);have r:=aA z;have n:=aA y;unfold lB;clear z y;go_enter func80,ntmps80;go_wp2_with fail;refine(o.o [] 34 _ r.o qs n.o.size).mono ?_;rintro e w1 ⟨rfl,hi,hb⟩;have HI:=aA (Or.inr hi:GX w.heap.size w.heap.size (Lib.byteCells (tE [])) w1);have HB:=aA (n.o.trans hb);clear hi hb r n;go_wp2;go_loopw [9] (fun i wr=>∃(k:Nat),k<=s.size/\i=.int .i64 k/\Hid (GX w.heap.size w.heap.size (Lib.byteCells (tE (s.data.toList.take k))) wr)/\Hid (Below w.heap.size w wr)) (fun i _=>s.size - (intOf i).toNat)
 case atStart=>exact⟨0,qo,rfl,HI,HB⟩
 case round=>
  obtain⟨k,P,rfl,HI,HB⟩:=hrel;by_cases E:k<s.size
  .have O:(s[k].toNat:Int)<256:=qA (s[k].toNat_lt);obtain⟨c,d⟩:=xE (s[k]);have A:s.data.toList.take (k+1)=s.data.toList.take k++[c]:=by rw[d];exact Lb E
   by_cases hp:fC c=true
   .obtain⟨m,p,q,B⟩:¬c.toNat<32/\¬126<c.toNat/\c.toNat≠34/\c.toNat≠92:=PY.1 hp;have d1:decide ((c.toNat:Int)<32)=false:=dF qo;have d2:decide ((c.toNat:Int) > 126)=false:=dF qo;have d3:((c.toNat:Int)==34)=false:=bN.2 qo;have d4:((c.toNat:Int)==92)=false:=bN.2 qo;rw[d] at d1 d2 d3 d4;go_wp2_with fail;refine(o.o _ s[k] _ HI.o (by have:=AR (s.data.toList.take k);rw[List.length_take] at this;omega) HB.o.size).mono ?_;rintro e w2 ⟨rfl,hi,hb⟩;have HI2:Hid (GX w.heap.size w.heap.size (Lib.byteCells (tE (s.data.toList.take (k+1)))) w2):=aA (by rw[A,PX,<-DV];unfold uD;rw[iP hp,d];exact .inr hi);have HB2:=aA (HB.o.trans hb);clear hi hb HI HB;go_wp2;go_roundw
    case rel=>exact⟨k+1,qo,by go_num,HI2,HB2⟩
    case measure=>simp[intOf];omega
   .have F:s[k].toNat<32\/(¬s[k].toNat<32/\126<s[k].toNat)\/(¬s[k].toNat<32/\¬126<s[k].toNat/\s[k].toNat=34)\/(¬s[k].toNat<32/\¬126<s[k].toNat/\s[k].toNat≠34/\s[k].toNat=92):=by
     rw[PY,d] at hp;omega
    obtain⟨a,ha⟩:=xE (s[k].toNat / 16);obtain⟨b,hb⟩:=xE (s[k].toNat % 16);have S:(s[k].toNat:Int) / 16=(a:Int):=qo;have qb:bits .and .u8 (s[k].toNat:Int) 15=(b:Int):=by rw[hb];exact aAa ⟨s[k].toNat,s[k].toNat_lt⟩
    have v:a<16:=qo;have x:b<16:=qo;have G:=Ld ⟨a,v⟩;have H:=Ld ⟨b,x⟩;have L:(0:Int)<=(a:Int):=qo;have a2:(a:Int)<=(a:Int)+1:=qo;have a3:(a:Int)+1<=16:=qo;have a4:(0:Int)<=(a:Int)+1:=qo;have b2:(b:Int)<=(b:Int)+1:=qo;have M:(b:Int)+1<=16:=qo;have N:(0:Int)<=(b:Int)+1:=qo;obtain⟨X,f⟩:∃X:bY,X=⟨#[JB a]⟩:=⟨_,rfl⟩;obtain⟨Y,g⟩:∃Y:bY,Y=⟨#[JB b]⟩:=⟨_,rfl⟩;have I:Eo.extract a (a+1)=X:=(Kz ⟨a,v⟩).trans f.symm;have J:Eo.extract b (b+1)=Y:=(Kz ⟨b,x⟩).trans g.symm;unfold Eo at I J;have U:X.size=1:=by rw[f];rfl
    have V:Y.size=1:=by rw[g];rfl
    have j:(⟨#[92]⟩++X++Y:bY)=⟨#[92,JB a,JB b]⟩:=by rw[f,g];rfl
    have HQW:=aA (LR w.heap.size w.heap.size (Lib.byteCells (tE (s.data.toList.take k))) (⟨#[92]⟩++X++Y) wr.drew HI.o (by rw[PV];have:=AR (s.data.toList.take k);rw[List.length_take] at this;omega) (by rw[j];show 0<3;decide) (by rw[j];show 3<=100000;decide) HB.o.size);have HQR:Hid (∀w2:World,GX w.heap.size w.heap.size (Lib.byteCells (tE (s.data.toList.take k))++Lib.strCells (⟨#[92]⟩++X++Y)) w2->GX w.heap.size w.heap.size (Lib.byteCells (tE (s.data.toList.take (k+1)))) w2):=aA (fun w2 h=>by rw[A,PX,<-DV];rw[j] at h;unfold uD;rw[iN hp,d,<-ha,<-hb];exact h);have K:=aA (And.intro ha hb);clear f g j;clear ha hb;dsimp only at G H
    rcases F with m|⟨m,p⟩|⟨m,p,q⟩|⟨m,p,q,B⟩
    .have d1:decide ((s[k].toNat:Int)<32)=true:=dX qo;exact Sw
    .have d1:decide ((s[k].toNat:Int)<32)=false:=dF qo;have d2:decide ((s[k].toNat:Int) > 126)=true:=dX qo;exact Sw
    .have d1:decide ((s[k].toNat:Int)<32)=false:=dF qo;have d2:decide ((s[k].toNat:Int) > 126)=false:=dF qo;have d3:((s[k].toNat:Int)==34)=true:=bQ.2 qo;clear q;exact Sw
    .have d1:decide ((s[k].toNat:Int)<32)=false:=dF qo;have d2:decide ((s[k].toNat:Int) > 126)=false:=dF qo;have d3:((s[k].toNat:Int)==34)=false:=bN.2 qo;have d4:((s[k].toNat:Int)==92)=true:=bQ.2 qo;clear B;exact Sw
  .have D:k=s.size:=qo;rw[D,List.take_of_length_le (by rw[Array.length_toList];exact lR _)] at HI;go_wp2_with fail;refine(o.o _ 34 _ HI.o (by have:=AR s.data.toList;have h2:s.data.toList.length=s.size:=(by rw[Array.length_toList];rfl);omega) HB.o.size).mono ?_;rintro e w2 ⟨rfl,hi,hb⟩;have t:=aA (Builder_String_any_k w.heap.size w.heap.size (tE s.data.toList++[34]) w2 (by rw[<-DV];exact .inr hi) (HB.o.trans hb).size);have HB2:=aA (HB.o.trans hb);clear hi hb HI HB;go_wp2_with fail;refine t.o.mono ?_;rintro e T ⟨rfl,-,hb,-⟩;have C:=aA (HB2.o.trans hb);clear hb t HB2;go_wp2;go_ret;exact⟨rfl,C.o⟩
theorem Es(B:Nat)(w:World)(k:Nat)(os:Array Obj)(h:B<=w.heap.size):Below B w (Go.Sort.grow (w.drewN k) os):=by
 have h1:Below B w (w.drewN k):=fX (Below.refl B w) ⟨k,rfl⟩;have h2:w.heap.size<=(w.drewN k).heap.size:=h1.size;exact⟨h1.os,h1.tape,h1.output,by show _<=((w.drewN k).heap++os).size;rw[Array.size_append];omega,fun j hj=>by
  show ((w.drewN k).heap++os)[j]? =_;rw[Array.getElem?_append_left qo];exact h1.block j hj⟩
theorem AS(n:Int)(a:bK n)(w:World)(b:Gl w):Calls prog 43 #[.int .i64 n] w (lB (.string (bs (mF n))) w):=by
 refine(strconv_Itoa n a.1 a.2 w b.tab).mono ?_;rintro e w' ⟨rfl,k,os,rfl⟩;exact⟨rfl,Es _ w k os (lR _)⟩
theorem Ao(b:Bool)(w:World):Calls prog 79 #[.bool b] w (lB (.string (bs (if b=true then eZ "true" else eZ "false"))) w):=by
 refine(strconv_FormatBool b w).mono ?_;rintro e w' ⟨rfl,rfl⟩;refine⟨?_,Below.refl _ _⟩
 cases b<;>rfl
theorem Qn{v:V3}(h:aT v=false):vC v=[]:=iP h
theorem Qo{k n:Int}{s:bY}(h:aT (k,n,s)=true):vC (k,n,s)=(if k=1 then (if n=1 then eZ "true" else eZ "false") else if k=4 then [64]++mF n else if k=5 then [35]++s.data.toList else if k=3 then FA s.data.toList else mF n):=by
 unfold vC;rw[iN (by rw[h];decide)]
theorem GY{n:Int}{s:bY}(h:aT (3,n,s)=true):s.size<=64:=by
 unfold aT at h;simp at h;exact h.2
theorem uE(n:Int)(b:bK n):(bs (mF n)).size<=100:=by
 have a:∀k u:Nat,u<10 ^ (k+1)->(Lib.decDigits u).length<=k+1:=by
  intro k
  induction k with
  |zero=>intro u hu;rw[Lib.decDigits_one qo];exact lR _
  |succ k c=>
   intro u hu;rw[Lib.decDigits];split
   .simp
   .rw[aL];have:=c (u / 10) (by rw[Nat.pow_succ] at hu;omega);simp only[List.length_cons,List.length_nil];omega
 have h0:=b.1;have h1:=b.2;have h2:(bs (mF n)).size=(mF n).length:=by unfold bs;exact List.size_toArray
 rw[h2];unfold mF Lib.itoa;split
 .have:=a 19 n.natAbs qo;rw[List.length_cons];omega
 .have:=a 19 n.toNat qo;omega
theorem Le(v:V3)(x:cR v)(w:World)(C:Gl w):Calls prog 44 #[dA v] w (lB (.string (bs (vC v))) w):=by
 obtain⟨k,n,s⟩:=v;obtain⟨W0,i⟩:=xE (w.alloc (.cells #[.int .i64 k,.int .i64 n,.string s] 44));have r:Below w.heap.size w W0:=by rw[i];exact aB _ _
 have R:Hid (W0.heap[w.heap.size]? =some (.cells #[.int .i64 k,.int .i64 n,.string s] 44 (0,0))):=aA (by rw[i];exact aK _ _ _ rfl);obtain⟨O,t⟩:=xE (vC (k,n,s));rw[<-t];obtain⟨A,J,f,z,I,N⟩:=hD6 (nG k n s (by have:s.size<=cP:=x.2.2;unfold cP at this;unfold maxLen;omega) W0) (C.on r) x t r i;unfold lB dA;clear r i C x t;obtain⟨⟨E,F,G⟩,-⟩:=cE R.o;have H:=aD R.o;go_enter func44,ntmps44;go_upto_region 1 with (fail)
 rw[<-N.o];go_wp2_with fail;refine A.o.mono ?_;rintro e w1 ⟨rfl,hb⟩;obtain⟨HB1,B,y⟩:=aY (aC I.o hb) (aE R.o hb) (J.o.on hb);clear E F G H hb A;obtain⟨⟨E,F,G⟩,-⟩:=cE B.o;have H:=aD B.o
 cases g:aT (k,n,s)
 .have c:=aA (z.o.trans (Qn g));go_wp2;go_ret;exact⟨by rw[c.o];rfl,HB1.o⟩
 .have c:=aA (z.o.trans (Qo g));have M:=aA g;clear g;by_cases j:k=1
  .have b:=aA (c.o.trans (iP j));subst j;by_cases a:n=1
   .have d1:(n==(1:Int))=true:=bQ.2 a;have p:=aA (Ao true w1);have HE2:=aA (b.o.trans (iP a));clear a;go_wp2_with fail;refine p.o.mono ?_;exact Yp
   .have d1:(n==(1:Int))=false:=bN.2 a;have p:=aA (Ao false w1);have HE2:=aA (b.o.trans (iN a));clear a;go_wp2_with fail;refine p.o.mono ?_;exact Yp
  .have c1:(k==(1:Int))=false:=bN.2 j;have b:=aA (c.o.trans (iN j));by_cases m:k=4
   .have HE2:=aA (b.o.trans (iP m));subst m;have q:=aA (AS n f.o.2.1 w1 y.o);have D:=uE n f.o.2.1;generalize mF n=L at *;go_wp2_with fail;refine q.o.mono ?_;exact Yp
   .have c4:(k==(4:Int))=false:=bN.2 m;have HE2:=aA (b.o.trans (iN m));by_cases o:k=5
    .have d:=aA (HE2.o.trans (iP o));subst o;have D:s.size<=cP:=f.o.2.2;unfold cP at D;go_wp2;go_ret;exact⟨by rw[d.o];rfl,HB1.o⟩
    .have c5:(k==(5:Int))=false:=bN.2 o;have d:=aA (HE2.o.trans (iN o));by_cases l:k=3
     .have HE4:=aA (d.o.trans (iP l));subst l;have K:=aA (Er s (GY M.o) w1);go_wp2_with fail;refine K.o.mono ?_;exact QCK
     .have c3:(k==(3:Int))=false:=bN.2 l;have HE4:=aA (d.o.trans (iN l));have q:=aA (AS n f.o.2.1 w1 y.o);go_wp2_with fail;refine q.o.mono ?_;exact QCK
end Go.Proofs.YtlfngkelmbdehaaGreatDoor
