/- Lemmas. -/
import Derived.Test.YtgoanbpcdhmfkaaGreatDoorMax
import Derived.Lib.FrozenHead2
import Derived.Lib.OthersKept
namespace Go.Proofs.YtgoanbpcdhmfkaaGreatDoor
open Go.RowKit
set_option linter.unusedVariables false
set_option linter.unusedSimpArgs false
set_option maxHeartbeats 16000000
open _root_.Go.Proofs.Tryz
set_option maxRecDepth 20000
theorem QBS{p:Prop}(h:p:=by
 go_wp2;refine bR (.tuple #[.agg #[.int .i64 0,.int .i64 0,.string ⟨#[]⟩],.bool false]) ?_;exact WC HN.o (((HB1.o.setCell (lR _) _).setCell (lR _) _).setCell (lR _) _)):p:=h
theorem QBR{p:Prop}(h:p:=by
 go_wp2;refine bR (.tuple #[.agg #[.int .i64 0,.int .i64 0,.string ⟨#[]⟩],.bool false]) ?_;exact WC HN.o (((HB2.o.setCell (lR _) _).setCell (lR _) _).setCell (lR _) _)):p:=h
def NG(o:Option V3)(w:World)(e:Ending)(w':World):Prop:=(∀v,o=some v->cS v)/\e=.returned (.tuple #[dB (o.getD bD),.bool o.isSome])/\Below w.heap.size w w'
theorem WC{o:Option V3}{w w':World}(h:o=none)(a:Below w.heap.size w w'):NG o w (.returned (.tuple #[.agg #[.int .i64 0,.int .i64 0,.string ⟨#[]⟩],.bool false])) w':=by subst h;exact⟨fun v h=>(by cases h),rfl,a⟩
theorem tE{o:Option V3}{w w':World}{v:V3}(h:o=some v)(b:cS v)(a:Below w.heap.size w w'):NG o w (.returned (.tuple #[.agg #[.int .i64 v.1,.int .i64 v.2.1,.string v.2.2],.bool true])) w':=by
 subst h;exact⟨fun u h=>by injection h with h;rw[<-h];exact b,rfl,a⟩
def FF(r:List Tok×Int×Int):Option V3:=
 match r with
 |([t,_],0,_)=>
  if t.aCJ=2 then some (2,t.num,t.str) else if t.aCJ=3 then some (4,t.num,t.str) else if t.aCJ=4 then some (5,t.num,t.str)
  else if t.aCJ=5 then some (3,t.num,t.str)
  else if t.aCJ=1 then (if t.str=str "true" then some (1,1,ByteArray.empty) else if t.str=str "false" then some (1,0,ByteArray.empty) else none)
  else none
 |_=>none
theorem Qm(l:lU):oS l=FF (jM l):=rfl
theorem Vs{T:List Tok}{e p:Int}(h:e≠0):FF (T,e,p)=none:=by
 unfold FF;split
 .rename_i h0;injection h0 with _ h1;injection h1 with h1 _;exact absurd h1 h
 .rfl
theorem Vt{T:List Tok}{e p:Int}(h:T.length≠2):FF (T,e,p)=none:=by
 unfold FF;split
 .rename_i h0;injection h0 with h1 _;rw[h1] at h;exact absurd rfl h
 .rfl
theorem YN(s:bY)(w:World)(hg:gU w):Calls prog 17 #[.string s] w (NG (oS s.data.toList) w):=by
 obtain⟨O,E⟩:=xE (oS s.data.toList);rw[<-E];obtain⟨W0,I⟩:=xE (w.alloc (.cells fU 44));have U:Below w.heap.size w W0:=by rw[I];exact aB _ _
 have R:Hid (W0.heap[w.heap.size]? =some (.cells fU 44 (0,0))):=aA (by rw[I];exact aK _ _ _ rfl);have B:=aA (KR s W0 (hg.on U));rw[Qm] at E;unfold yL at B;have ag:=aA U;have ad:=aA I;generalize jM s.data.toList=L at *;obtain⟨T,le,lp⟩:=L;dsimp only at B;have Q:=aA E;clear E U I hg;go_enter func17,ntmps17;go_upto_region 1 with (fail)
 rw[<-ad.o];go_wp2_with fail;refine B.o.mono ?_;rintro e w1 ⟨v,rfl,Z,F⟩;obtain⟨a,c,rfl,an⟩:=Z.slice;obtain⟨HV,HB1,C⟩:=aY Z (aC ag.o F) (aE R.o F);clear Z F B;obtain⟨⟨r0,r1,r2⟩,f0,f1,f2⟩:=cD C.o;have zr:=aD C.o;by_cases he:le=0
 .by_cases h2:T.length=2
  .subst he;have ak:=aA h2;have ai:0<T.length:=qo;obtain⟨b,off,r,rfl,af,H,⟨rfl,X⟩,A⟩:=aH.at gX HV.o ai qe;obtain⟨t,Y⟩:=xE (T[0]);rw[<-Y] at X A;have ae:O=FF ([t,T[1]'(by omega)],0,lp):=by
    rw[Q.o]
    rcases T with _|⟨t1,_|⟨t2,_|⟨t3,T⟩⟩⟩
    .simp at h2
    .simp at h2
    .rw[Y];rfl
    .simp at h2
   have n:=aA (show O=(if t.aCJ=2 then some (2,t.num,t.str) else if t.aCJ=3 then some (4,t.num,t.str) else if t.aCJ=4 then some (5,t.num,t.str) else if t.aCJ=5 then some (3,t.num,t.str) else if t.aCJ=1 then (if t.str=str "true" then some (1,1,ByteArray.empty) else if t.str=str "false" then some (1,0,ByteArray.empty) else none) else none) from ae);have m:=aA X;have D:Hid (∀w2,Below w1.heap.size w1 w2->w2.cell? ⟨b,off,none⟩=some (.int .i64 t.aCJ)/\w2.cell? ⟨b,off+2,none⟩=some (.int .i64 t.num)/\w2.cell? ⟨b,off+3,none⟩=some (.string t.str)/\b<w2.heap.size):=aA (fun w2 G=>by
    have o:=A 0 _ rfl;have q:=A 2 _ rfl;have x:=A 3 _ rfl;rw[Nat.zero_mul,Nat.add_zero] at o q x;exact⟨(G.cell (p:=⟨b,off,none⟩) H).trans o,(G.cell (p:=⟨b,off+2,none⟩) H).trans q,(G.cell (p:=⟨b,off+3,none⟩) H).trans x,lL H G.size⟩)
   have b1:((0:Int) != 0)=false:=rfl;have b2:((T.length:Int) != 2)=false:=by rw[h2];rfl
   have b3:((2:Int) != 2)=false:=rfl;have al:¬(T.length=0):=qo;have ao:(0:Int)<(T.length:Int):=qo;have aj:=aA (show b≠w.heap.size from fun e=>by have h5:W0.heap.size<=b:=af;rw[ad.o] at h5;simp at h5;omega);clear A X Y ae af h2;go_upto_region 4 with (fail)
   obtain⟨d,ap,J,st⟩:=t;dsimp only at n D m;have W:Below w1.heap.size w1 w1.drew:=(Below.refl _ _).drew;have P:=aA W;obtain⟨o,q,x,M⟩:=D.o _ W;refine cC 10 [(0,false),(1,false),(2,false),(3,false),(4,false),(5,false),(6,false),(7,false),(8,false),(9,true)] [(10,true)] (fun w'=>Below w1.heap.size w1 w') (by kernel_rfl) (by kernel_rfl) P.o ?_;simp only[List.cons_append,List.nil_append]
   repeat (refine dG rfl (fun K V=> ?_);unfold rd;go_simp;refine V _ (fun au h1=> ?_) ?_;(· clear V K o q x M;obtain⟨o,q,x,M⟩:=D.o _ h1;unfold rd;go_simp);clear V K)
   clear o q x M W;refine bJ rfl (fun S z=> ?_);unfold mv;go_simp;refine z _ (World.alloc _ (.cells fU 44)) (fun _=>aC P.o (aB _ _)) ?_;clear z S;refine bJ rfl (fun S z=> ?_);unfold mv;refine kX rfl _ (.tmp 7) (.tmp 30) rfl w1.heap.size _ rfl rfl _ _ (aK _ _ _ rfl) (by kernel_rfl) rfl (by simp[Value.oneCell']) ?_;intro w2 ab ah;refine z _ _ (fun h=>absurd h qe) ?_;clear z S;unfold cI;have N:Hid (Below w1.heap.size w1 w2):=aA (((aJ (ok:=fun b=>b<w1.heap.size) (aC P.o (aB w1.drew (.cells fU 44)))).trans (ah.o.mono fun b _ F=>by show (_:Nat)≠_;omega)).below (fun k hk=>⟨hk,hk⟩));have HB2:=qB HB1 N.o;have aa:=qK C N.o;have y:Hid (¬w.heap.size=w1.heap.size/\¬w1.heap.size=w.heap.size/\w.heap.size<=w1.heap.size):=aA (by have:=aD C.o;exact⟨qo,qo,qo⟩);have aq:=y.o.1;have ar:=y.o.2.1;obtain⟨o,q,x,M⟩:=D.o _ N.o;clear r0 r1 r2 f0 f1 f2 zr;obtain⟨⟨r0,r1,r2⟩,f0,f1,f2⟩:=cD aa.o;have zr:=aD aa.o;obtain⟨⟨y0,y1,y2⟩,g0,g1,g2⟩:=cD ab.o;have zy:=aD ab.o;by_cases g:d=2
   .subst g;have HN:=aA (n.o.trans (iP rfl));go_wp2;refine bR (.tuple #[.agg #[.int .i64 2,.int .i64 J,.string st],.bool true]) ?_;exact tE HN.o ⟨⟨by show (-9223372036854775808:Int)<=2;omega,by show (2:Int)<=9223372036854775807;omega⟩,m.o.2.2.1,m.o.2.2.2⟩ ((((HB2.o.setCell y.o.2.2 _).setCell (lR _) _).setCell (lR _) _).setCell (lR _) _)
   .have c2:(d==2)=false:=bN.2 g;by_cases i:d=3
    .subst i;have HN:=aA (n.o.trans ((iN qe).trans (iP rfl)));go_wp2;refine bR (.tuple #[.agg #[.int .i64 4,.int .i64 J,.string st],.bool true]) ?_;exact tE HN.o ⟨⟨by show (-9223372036854775808:Int)<=4;omega,by show (4:Int)<=9223372036854775807;omega⟩,m.o.2.2.1,m.o.2.2.2⟩ ((((HB2.o.setCell y.o.2.2 _).setCell (lR _) _).setCell (lR _) _).setCell (lR _) _)
    .have c3:(d==3)=false:=bN.2 i;by_cases j:d=4
     .subst j;have HN:=aA (n.o.trans ((iN qe).trans ((iN qe).trans (iP rfl))));go_wp2;refine bR (.tuple #[.agg #[.int .i64 5,.int .i64 J,.string st],.bool true]) ?_;exact tE HN.o ⟨⟨by show (-9223372036854775808:Int)<=5;omega,by show (5:Int)<=9223372036854775807;omega⟩,m.o.2.2.1,m.o.2.2.2⟩ ((((HB2.o.setCell y.o.2.2 _).setCell (lR _) _).setCell (lR _) _).setCell (lR _) _)
     .have c4:(d==4)=false:=bN.2 j;by_cases l:d=5
      .subst l;have HN:=aA (n.o.trans ((iN qe).trans ((iN qe).trans ((iN qe).trans (iP rfl)))));go_wp2;refine bR (.tuple #[.agg #[.int .i64 3,.int .i64 J,.string st],.bool true]) ?_;exact tE HN.o ⟨⟨by show (-9223372036854775808:Int)<=3;omega,by show (3:Int)<=9223372036854775807;omega⟩,m.o.2.2.1,m.o.2.2.2⟩ ((((HB2.o.setCell y.o.2.2 _).setCell (lR _) _).setCell (lR _) _).setCell (lR _) _)
      .have c5:(d==5)=false:=bN.2 l;by_cases f:d=1
       .have c1:(d==1)=true:=bQ.2 f;by_cases t1:st=str "true"
        .have HN:=aA (n.o.trans ((iN g).trans ((iN i).trans ((iN j).trans ((iN l).trans ((iP f).trans (iP t1)))))));obtain⟨d1,e1⟩:=fN st [116,114,117,101] (t1.trans (by kernel_rfl));clear f g i j l t1;go_wp2;refine bR (.tuple #[.agg #[.int .i64 1,.int .i64 1,.string ⟨#[]⟩],.bool true]) ?_;exact tE (v:=(1,1,ByteArray.empty)) HN.o ⟨⟨qe,qe⟩,⟨qe,qe⟩,qe⟩ (((HB2.o.setCell (lR _) _).setCell (lR _) _).setCell (lR _) _)
        .obtain⟨d1,e1⟩:=fG st [116,114,117,101] (fun e=>t1 (e.trans (by kernel_rfl)));by_cases t2:st=str "false"
         .have HN:=aA (n.o.trans ((iN g).trans ((iN i).trans ((iN j).trans ((iN l).trans ((iP f).trans ((iN t1).trans (iP t2))))))));obtain⟨d2,e2⟩:=fN st [102,97,108,115,101] (t2.trans (by kernel_rfl));clear f g i j l t1 t2;go_wp2;refine bR (.tuple #[.agg #[.int .i64 1,.int .i64 0,.string ⟨#[]⟩],.bool true]) ?_;exact tE (v:=(1,0,ByteArray.empty)) HN.o ⟨⟨qe,qe⟩,⟨qe,qe⟩,qe⟩ (((HB2.o.setCell (lR _) _).setCell (lR _) _).setCell (lR _) _)
         .have HN:=aA (n.o.trans ((iN g).trans ((iN i).trans ((iN j).trans ((iN l).trans ((iP f).trans ((iN t1).trans (iN t2))))))));obtain⟨d2,e2⟩:=fG st [102,97,108,115,101] (fun e=>t2 (e.trans (by kernel_rfl)));clear f g i j l t1 t2;exact QBR
       .have c1:(d==1)=false:=bN.2 f;have HN:=aA (n.o.trans ((iN g).trans ((iN i).trans ((iN j).trans ((iN l).trans (iN f))))));clear f g i j l;exact QBR
  .have b1:(le != 0)=false:=by simpa using he
   have b2:((T.length:Int) != 2)=true:=by simp;omega
   have HN:=aA (Q.o.trans (Vt h2));clear he h2;exact QBS
 .have b1:(le != 0)=true:=by simpa using he
  have HN:=aA (Q.o.trans (Vs he));clear he;exact QBS
def AS(k:Int)(base:Op)(a:lU):Option Op:=
 if k=1 then some {base with aCQ:=bs a}
 else if k=2\/k=6 then some {base with aCQ:=bs (cN a).1,aC4:=bs (cN a).2}
 else if k=3 then (oS (cN (cN a).2).2).map (fun v=>{base with aCQ:=bs (cN a).1,aC4:=bs (cN (cN a).2).1,val:=v})
 else if k=4 then some {base with aCQ:=bs (cN a).1,to_:=bs (cN a).2}
 else if k=5\/k=8 then some {base with aC6:=jF a}
 else if k=7 then some {base with text:=bs a}
 else some base
def Sx(k:Int)(a reason:lU)(glass:Bool):Op:={IJ with aCJ:=k,aCZ:=bs a,aC7:=bs reason,aDc:=glass}
def vG(o:Option Op):Option Op:=match o with
 |some o=>if gA o then some o else none
 |none=>none
theorem Al(l:lU):kW l=vG (AS (oH (cN (jW (cN l).2).2.2).1) (Sx (oH (cN (jW (cN l).2).2.2).1) (cN l).1 (jW (cN l).2).2.1 (jW (cN l).2).1) (cN (jW (cN l).2).2.2).2):=by
 rfl
theorem sG(l:lU):(cN l).1.length<=l.length/\(cN l).2.length<=l.length:=by
 unfold cN;refine⟨(List.takeWhile_sublist _).length_le,?_⟩;rw[List.length_drop];have:=(List.dropWhile_sublist (fun c:UInt8=>decide (c.toNat≠32)) (l:=l)).length_le;omega
theorem Am(l:lU):(jW l).2.1.length<=l.length/\(jW l).2.2.length<=l.length:=by
 unfold jW;split
 .rename_i r;have:=sG r;simp only[List.length_cons];omega
 .simp
theorem QBs{p:Prop}(h:p:=by
 obtain⟨⟨q0,q1,q2,q3,q4,q5,q6,q7,q8,q9,q10,q11⟩,-⟩:=bL HRE.o;refine bR (.tuple #[.agg #[.int .i64 0,.string ⟨#[]⟩,.string ⟨#[]⟩,.string ⟨#[]⟩,.string ⟨#[]⟩,.int .i64 0,.int .i64 0,.string ⟨#[]⟩,.int .i64 0,.string ⟨#[]⟩,.string ⟨#[]⟩,.bool false],.bool false]) ?_;exact Qn HN.o HBE.o):p:=h
theorem Eo(l:lU):0<=oH l/\oH l<=8:=by
 unfold oH;dsimp only;split
 .omega
 .decide
theorem WE(l:lU):0<=jF l/\jF l<=1000000000:=by
 by_cases h:l=[]\/9<l.length\/l.head?=some 48\/l.all bA=false
 .rw[sF h];decide
 .have h1:=(LS h).1;simp only[not_or] at h;obtain⟨_,h2,_,h4⟩:=h;have a:∀c∈l,bA c=true:=by simpa using h4
  have b:=NF l 0 a;have hp:10 ^ l.length<=10 ^ 9:=Nat.pow_le_pow_right qe qo;have:pS l<(0+1) * 10 ^ l.length:=b;rw[h1];omega
theorem YO(l:lU):Lib.hasPrefix l [33]=true->∃r,l=33 ::r:=by
 unfold Lib.hasPrefix;intro h
 rcases l with _|⟨c,r⟩
 .simp[List.isPrefixOf] at h
 .simp[List.isPrefixOf] at h;exact⟨r,by rw[h]⟩
def DW(o:Option Op)(w:World)(e:Ending)(w':World):Prop:=(∀v,o=some v->kG v)/\e=.returned (.tuple #[fA (o.getD IJ),.bool o.isSome])/\Below w.heap.size w w'
theorem tF{k d:Int}{su a b e f c:bY}{v:V3}{g:Bool}(l:bK k)(n:su.size<=1000000)(i:a.size<=1000000)(j:b.size<=1000000)(o:e.size<=1000000)(p:cS v)(m:bK d)(q:f.size<=1000000)(he:c.size<=1000000):kG ⟨k,su,a,b,e,v,d,f,c,g⟩:=⟨l,n,i,j,o,p,m,q,he⟩
theorem Qn{o:Option Op}{w w':World}(h:o=none)(a:Below w.heap.size w w'):DW o w (.returned (.tuple #[.agg #[.int .i64 0,.string ⟨#[]⟩,.string ⟨#[]⟩,.string ⟨#[]⟩,.string ⟨#[]⟩,.int .i64 0,.int .i64 0,.string ⟨#[]⟩,.int .i64 0,.string ⟨#[]⟩,.string ⟨#[]⟩,.bool false],.bool false])) w':=by subst h;exact⟨fun v h=>(by cases h),rfl,a⟩
theorem Qo{o:Option Op}{w w':World}{a:Op}(h:o=some a)(c:kG a)(b:Below w.heap.size w w'):DW o w (.returned (.tuple #[.agg #[.int .i64 a.aCJ,.string a.aCZ,.string a.aCQ,.string a.aC4,.string a.to_,.int .i64 a.val.1,.int .i64 a.val.2.1,.string a.val.2.2,.int .i64 a.aC6,.string a.text,.string a.aC7,.bool a.aDc],.bool true])) w':=by
 subst h;exact⟨fun u h=>by injection h with h;rw[<-h];exact c,rfl,b⟩
abbrev LU:Array Value:=#[.int .i64 0,.string ⟨#[]⟩,.string ⟨#[]⟩,.string ⟨#[]⟩,.string ⟨#[]⟩,.int .i64 0,.int .i64 0,.string ⟨#[]⟩,.int .i64 0,.string ⟨#[]⟩,.string ⟨#[]⟩,.bool false]
theorem PV(s:bY)(hs:s.size<=100000)(w:World)(hg:Gl w):Calls prog 8 #[.string s] w (DW (kW s.data.toList) w):=by
 obtain⟨O,hO⟩:=xE (kW s.data.toList);rw[<-hO];rw[Al] at hO;obtain⟨W0,aq⟩:=xE ((w.alloc (.cells LU 46)).alloc (.cells LU 46));have bk:Below w.heap.size w W0:=by rw[aq];exact aC (aB _ _) (aB _ _)
 have R:Hid (W0.heap[w.heap.size]? =some (.cells LU 46 (0,0))):=aA (by rw[aq];exact aE (aK _ _ _ rfl) (aB _ _));have B:Hid (W0.heap[w.heap.size+1]? =some (.cells LU 46 (0,0))):=aA (by rw[aq];exact aK _ _ _ qs);have cm:s.data.toList.length=s.size:=by rw[Array.length_toList];rfl
 have bm:=sG s.data.toList;have av:=aA (qU s hs W0 (hg.on bk));have aa:=aA (fun w' (N:Below w.heap.size w w')=>hg.on N);have cr:=aA bk;have cv:=aA aq;unfold rR at av;clear bk aq hg;generalize cN s.data.toList=c0 at *;obtain⟨su,U⟩:=c0;dsimp only at hO av bm;have aw:=aA (And.intro hs (And.intro cm bm));have Q:=aA hO;clear hs cm bm hO;go_enter func8,ntmps8;go_upto_region 1 with (fail)
 go_upto_region 2 with (fail)
 rw[<-cv.o];go_wp2_with fail;refine av.o.mono ?_;rintro e w1 ⟨rfl,ax⟩;replace B:=qK B ax;have bq:=qB cr ax;replace R:=qK R ax;clear ax av;obtain⟨⟨b0,b1,b2,F,G,b5,b6,b7,H,I,D,E⟩,i,j,o,p,q,t,x,y,z,A,l,m⟩:=bL B.o;have J:=aD B.o;go_upto_region 4 with (fail)
 generalize bo:w1.setCell _ _=w2;have B2:Hid (w2.heap[w.heap.size+1]? =some (.cells #[.int .i64 0,.string (bs su),.string ⟨#[]⟩,.string ⟨#[]⟩,.string ⟨#[]⟩,.int .i64 0,.int .i64 0,.string ⟨#[]⟩,.int .i64 0,.string ⟨#[]⟩,.string ⟨#[]⟩,.bool false] 46 (0,0))):=aA (by rw[<-bo];exact aG B.o 1 _);have bh:Hid (aN (fun b=>b≠w.heap.size+1) w1 w2):=aA (by rw[<-bo];exact aI _);have bd:Hid (Below w.heap.size w w2):=aA (((aJ (ok:=fun b=>b<w.heap.size) bq.o).trans (bh.o.mono fun b _ N=>by omega)).below (fun k P=>⟨P,P⟩));have T:¬w.heap.size=w.heap.size+1:=qo;have R2:=qS R bh.o T;clear b0 b1 b2 F G b5 b6 b7 H I D E i j o p q t x y z A l m J;clear bo B R bq bh;go_wp2_with fail;refine(strings_HasPrefix (bs U) ⟨#[33]⟩ w2).mono ?_;rintro e w3 ⟨rfl,ai⟩;rw[ai];clear ai w3;rw[show Lib.hasPrefix (bs U).data.toList (⟨#[33]⟩:bY).data.toList=Lib.hasPrefix U [33] from rfl];obtain⟨pb,bn⟩:=xE (Lib.hasPrefix U [33]);rw[<-bn];have cd:=aA bn;clear bn;obtain⟨⟨b0,b1,b2,F,G,b5,b6,b7,H,I,D,E⟩,i,j,o,p,q,t,x,y,z,A,l,m⟩:=bL B2.o;have J:=aD B2.o;go_upto_if 14 with (fail)
 go_cut [0] from 15 to 22 (fun v w'=>v=.string (bs (jW U).2.2)/\Hid (w'.heap[w.heap.size+1]? =some (.cells #[.int .i64 0,.string (bs su),.string ⟨#[]⟩,.string ⟨#[]⟩,.string ⟨#[]⟩,.int .i64 0,.int .i64 0,.string ⟨#[]⟩,.int .i64 0,.string ⟨#[]⟩,.string (bs (jW U).2.1),.bool (jW U).1] 46 (0,0)))/\Hid (w'.heap[w.heap.size]? =some (.cells LU 46 (0,0)))/\Hid (Below w.heap.size w w'))
 case first=>
  cases pb
  .have hh:jW U=(false,[],U):=by
    have hp:=cd.o;unfold jW;split
    .rename_i r;simp[Lib.hasPrefix,List.isPrefixOf] at hp
    .rfl
   have HH:=aA hh;clear hh;go_wp2
   all_goals go_meet
   all_goals (rw[HH.o];exact⟨rfl,B2,R2,bd⟩)
  .obtain⟨r,rfl⟩:=YO U cd.o.symm;have bj:=aA (fun w' (N:Below w.heap.size w w')=>qU (bs r) (by have:=aw.o;simp only[List.length_cons] at this;rw[cG];omega) w' (aa.o w' N));unfold rR at bj;rw[kS] at bj;have cy:1<=(bs (33 ::r)).size:=by rw[cG];simp
   have c7:(1:Int)<=((bs (33 ::r)).size:Int):=qo;have c8:(bs (33 ::r)).extract 1 (bs (33 ::r)).size=bs r:=by
    rw[<-FE ((bs (33 ::r)).extract 1 (bs (33 ::r)).size),yI _ 1 cy];rfl
   go_upto_region 6 with (fail)
   generalize ai:w2.setCell _ _=w3;have B3:Hid (w3.heap[w.heap.size+1]? =some (.cells #[.int .i64 0,.string (bs su),.string ⟨#[]⟩,.string ⟨#[]⟩,.string ⟨#[]⟩,.int .i64 0,.int .i64 0,.string ⟨#[]⟩,.int .i64 0,.string ⟨#[]⟩,.string ⟨#[]⟩,.bool true] 46 (0,0))):=aA (by rw[<-ai];exact aG B2.o 11 _);have cg:Hid (aN (fun b=>b≠w.heap.size+1) w2 w3):=aA (by rw[<-ai];exact aI _);have br:Hid (Below w.heap.size w w3):=aA (((aJ (ok:=fun b=>b<w.heap.size) bd.o).trans (cg.o.mono fun b _ N=>by omega)).below (fun k P=>⟨P,P⟩));have R3:=qS R2 cg.o T;clear ai;clear b0 b1 b2 F G b5 b6 b7 H I D E i j o p q t x y z A l m J;go_wp2_with fail;refine(bj.o w3 br.o).mono ?_;rintro e w4 ⟨rfl,ay⟩;obtain⟨B4,R4,ct⟩:=aY (aE B3.o ay) (aE R3.o ay) (aC br.o ay);clear ay;obtain⟨⟨b0,b1,b2,F,G,b5,b6,b7,H,I,D,E⟩,i,j,o,p,q,t,x,y,z,A,l,m⟩:=bL B4.o;have J:=aD B4.o;go_wp2
   all_goals go_meet
   all_goals exact⟨rfl,aA (aG B4.o 10 _),aA (aF R4.o (aI _) T),aA (ct.o.setCell (Nat.le_succ _) _)⟩
 case rest=>
 obtain⟨hv,B5,R5,be⟩:=hcut;subst hv;have cl:=Am U;generalize jW U=hd at *;obtain⟨M,K,r1⟩:=hd;dsimp only at cl B5 Q;have ch:=sG r1;have ak:=aA (fun w' (N:Below w.heap.size w w')=>qU (bs r1) (by have:=aw.o;rw[cG];omega) w' (aa.o w' N));unfold rR at ak;rw[kS] at ak;generalize cN r1=c1 at *;obtain⟨wd,d⟩:=c1;dsimp only at ak Q ch;have bz:Hid (su.length<=100000/\K.length<=100000/\d.length<=100000):=aA (qA aw.o);have cz:=Eo wd;have HK:=aA (fun w'=>Ql (bs wd) w');rw[kS] at HK;unfold aP at HK;generalize oH wd=k at *;clear cl ch aw R2 bd B2;go_wp2_with fail;refine(ak.o wc be.o).mono ?_;rintro e w6 ⟨rfl,az⟩;obtain⟨B6,R6,bt⟩:=aY (aE B5.o az) (aE R5.o az) (aC be.o az);clear az B5 R5 be ak;go_wp2_with fail;refine(HK.o w6).mono ?_;rintro e w7 ⟨rfl,a1⟩;obtain⟨B7,R7,bu⟩:=aY (aE B6.o a1) (aE R6.o a1) (aC bt.o a1);clear a1 B6 R6 bt HK;obtain⟨⟨b0,b1,b2,F,G,b5,b6,b7,H,I,D,E⟩,i,j,o,p,q,t,x,y,z,A,l,m⟩:=bL B7.o;have J:=aD B7.o;go_upto_region 9 with (fail)
 generalize a8:w7.setCell _ _=w8;have Z:Hid (w8.heap[w.heap.size+1]? =some (.cells #[.int .i64 k,.string (bs su),.string ⟨#[]⟩,.string ⟨#[]⟩,.string ⟨#[]⟩,.int .i64 0,.int .i64 0,.string ⟨#[]⟩,.int .i64 0,.string ⟨#[]⟩,.string (bs K),.bool M] 46 (0,0))):=aA (by rw[<-a8];exact aG B7.o 0 _);have R8:=aA (show w8.heap[w.heap.size]? =some (.cells LU 46 (0,0)) from by rw[<-a8];exact aF R7.o (aI _) T);have V:=aA (show Below w.heap.size w w8 from by rw[<-a8];exact bu.o.setCell (Nat.le_succ _) _);clear b0 b1 b2 F G b5 b6 b7 H I D E i j o p q t x y z A l m J;clear a8 B7 R7 bu;obtain⟨⟨b0,b1,b2,F,G,b5,b6,b7,H,I,D,E⟩,i,j,o,p,q,t,x,y,z,A,l,m⟩:=bL Z.o;have J:=aD Z.o;go_upto_region 10 with (fail)
 rename_i K1 bl K2 cw;have HJ:∀(a:Act) (w':World) (g:Op) (au:Bool),a={tmps:=#[gT a 0,gT a 1,.pointer (some ⟨w.heap.size,0,none⟩),gT a 3,.pointer (some ⟨w.heap.size+1,0,none⟩),gT a 5,.bool au,gT a 7,gT a 8,gT a 9,gT a 10,gT a 11,gT a 12,gT a 13,gT a 14,gT a 15,gT a 16,gT a 17,gT a 18,gT a 19,gT a 20,gT a 21,gT a 22,gT a 23,gT a 24,gT a 25,gT a 26,gT a 27,gT a 28,gT a 29,gT a 30,gT a 31,gT a 32,gT a 33,gT a 34,gT a 35,gT a 36,gT a 37,gT a 38,gT a 39,gT a 40,gT a 41,gT a 42,gT a 43,gT a 44,gT a 45,gT a 46,gT a 47,gT a 48,gT a 49,gT a 50,gT a 51,gT a 52,gT a 53,gT a 54,gT a 55,gT a 56,gT a 57,gT a 58,gT a 59,gT a 60,gT a 61,gT a 62,gT a 63,gT a 64,gT a 65,gT a 66,gT a 67,gT a 68,gT a 69,gT a 70,gT a 71,gT a 72,gT a 73,gT a 74,gT a 75,gT a 76,gT a 77,gT a 78,gT a 79,gT a 80,gT a 81,gT a 82,gT a 83,gT a 84,gT a 85,gT a 86,gT a 87,gT a 88,gT a 89,gT a 90,gT a 91,gT a 92,gT a 93,gT a 94],defers:=[]}->Hid (w'.heap[w.heap.size+1]? =some (.cells (rE g) 46 (0,0)))->Hid (w'.heap[w.heap.size]? =some (.cells LU 46 (0,0)))->Hid (Below w.heap.size w w')->Hid (O=vG (if au=true then some g else none))->Hid (kG g)->K1 a w':=by
  intro a w' g au ha HO HR bp cc bx;obtain⟨u,hu⟩:∃u:Nat->Value,a={tmps:=#[u 0,u 1,.pointer (some ⟨w.heap.size,0,none⟩),u 3,.pointer (some ⟨w.heap.size+1,0,none⟩),u 5,.bool au,u 7,u 8,u 9,u 10,u 11,u 12,u 13,u 14,u 15,u 16,u 17,u 18,u 19,u 20,u 21,u 22,u 23,u 24,u 25,u 26,u 27,u 28,u 29,u 30,u 31,u 32,u 33,u 34,u 35,u 36,u 37,u 38,u 39,u 40,u 41,u 42,u 43,u 44,u 45,u 46,u 47,u 48,u 49,u 50,u 51,u 52,u 53,u 54,u 55,u 56,u 57,u 58,u 59,u 60,u 61,u 62,u 63,u 64,u 65,u 66,u 67,u 68,u 69,u 70,u 71,u 72,u 73,u 74,u 75,u 76,u 77,u 78,u 79,u 80,u 81,u 82,u 83,u 84,u 85,u 86,u 87,u 88,u 89,u 90,u 91,u 92,u 93,u 94],defers:=[]}:=⟨fun n=>a.tmps.getD n undef,ha⟩;subst hu;clear ha;refine bl _ _ ?_;clear bl cw b0 b1 b2 F G b5 b6 b7 H I D E i j o p q t x y z A l m J;obtain⟨⟨o0,o1,o2,o3,o4,o5,o6,o7,o8,o9,cp,cq⟩,-⟩:=bL HO.o;have zo:=aD HO.o
  cases au
  .have HN:Hid (O=none):=aA cc.o;go_upto_region 27 with (fail)
   go_wp2_with (refine eC rfl _ (.tmp 2) (.tmp 93) rfl w.heap.size _ rfl rfl _ _ HR.o (by kernel_rfl) rfl (by simp[Value.oneCell']) ?_;intro wE HRE ao)
   have HBE:=aA (((aJ (ok:=fun b=>b<w.heap.size) bp.o).trans (ao.o.mono fun b _ N=>by show (_:Nat)≠_;omega)).below (B:=w.heap.size) (fun k P=>⟨P,P⟩));exact QBs
  .have af:=TZ g bx.o w';unfold fA bZ aP at af;have af:=aA af;have cb:Hid (O=if gA g=true then some g else none):=aA cc.o;go_upto_if 92 with (go_at_call 19;refine af.o.mono ?_;rintro e w9 ⟨rfl,c⟩)
   obtain⟨ca,cf,W⟩:=aY (aE HO.o c) (aE HR.o c) (aC bp.o c);clear c o0 o1 o2 o3 o4 o5 o6 o7 o8 o9 cp cq zo;obtain⟨⟨o0,o1,o2,o3,o4,o5,o6,o7,o8,o9,cp,cq⟩,-⟩:=bL ca.o;have zo:=aD ca.o
   cases hf:gA g
   .have HN:Hid (O=none):=aA (by have h:=cb.o;rw[hf] at h;exact h);clear hf;go_upto_region 27 with (fail)
    go_wp2_with (refine eC rfl _ (.tmp 2) (.tmp 93) rfl w.heap.size _ rfl rfl _ _ cf.o (by kernel_rfl) rfl (by simp[Value.oneCell']) ?_;intro wE HRE ao)
    have HBE:=aA (((aJ (ok:=fun b=>b<w.heap.size) W.o).trans (ao.o.mono fun b _ N=>by show (_:Nat)≠_;omega)).below (B:=w.heap.size) (fun k P=>⟨P,P⟩));exact QBs
   .have HN:Hid (O=some g):=aA (by have h:=cb.o;rw[hf] at h;exact h);clear hf;go_upto_region 28 with (fail)
    go_wp2_with (refine eC rfl _ (.tmp 2) (.tmp 94) rfl w.heap.size _ rfl rfl _ _ cf.o (by kernel_rfl) rfl (by simp[Value.oneCell']) ?_;intro wE HRE ao)
    have HBE:=aA (((aJ (ok:=fun b=>b<w.heap.size) W.o).trans (ao.o.mono fun b _ N=>by show (_:Nat)≠_;omega)).below (B:=w.heap.size) (fun k P=>⟨P,P⟩));obtain⟨⟨q0,q1,q2,q3,q4,q5,q6,q7,q8,q9,q10,q11⟩,-⟩:=bL HRE.o;refine bR (.tuple #[.agg #[.int .i64 g.aCJ,.string g.aCZ,.string g.aCQ,.string g.aC4,.string g.to_,.int .i64 g.val.1,.int .i64 g.val.2.1,.string g.val.2.2,.int .i64 g.aC6,.string g.text,.string g.aC7,.bool g.aDc],.bool true]) ?_;exact Qo HN.o bx.o HBE.o
 clear bl;have C:(ByteArray.empty).size<=1000000:=qe;have ad:cS bD:=⟨⟨qe,qe⟩,⟨qe,qe⟩,qe⟩;have ah:bK 0:=⟨qe,qe⟩;have cn:(bs d).size<=1000000:=by have:=bz.o;rw[cG];omega
 have c6:=bz.o;by_cases k1:k=1
 .subst k1;go_wp2;exact HJ _ _ (⟨1,bs su,bs d,ByteArray.empty,ByteArray.empty,bD,0,ByteArray.empty,bs K,M⟩:Op) true rfl (aA (aG Z.o 2 _)) (aA (aF R8.o (aI _) T)) (aA (V.o.setCell (Nat.le_succ _) _)) (aA Q.o) (aA (tF ⟨qe,qe⟩ (by rw[cG];omega) cn C C ad ah C (by rw[cG];omega)))
 have d1:(k==1)=false:=bN.2 k1;by_cases aj:k=2\/k=6
 .have ab:=sG d;have f:=qU (bs d) (by rw[cG];omega) w8 (aa.o _ V.o);unfold rR at f;rw[kS] at f;have S:Hid (O=vG (some (⟨k,bs su,bs (cN d).1,bs (cN d).2,ByteArray.empty,bD,0,ByteArray.empty,bs K,M⟩:Op))):=aA (by have h:=Q.o;unfold AS at h;rw[iN k1,iP aj] at h;exact h);generalize cN d=c2 at *;obtain⟨X,Y⟩:=c2;dsimp only at f S ab;have f:=aA f;have HX:Hid ((bs X).size<=1000000/\(bs Y).size<=1000000):=aA (by rw[cG,cG];omega);have ag:Hid (bK k):=aA ⟨qo,qo⟩;clear ab Q
  rcases aj with rfl|rfl
  all_goals
   go_wp2_with fail;refine f.o.mono ?_;rintro e w9 ⟨rfl,c⟩;obtain⟨L,R9,W⟩:=aY (aE Z.o c) (aE R8.o c) (aC V.o c);clear c b0 b1 b2 F G b5 b6 b7 H I D E i j o p q t x y z A l m J;obtain⟨⟨b0,b1,b2,F,G,b5,b6,b7,H,I,D,E⟩,i,j,o,p,q,t,x,y,z,A,l,m⟩:=bL L.o;have J:=aD L.o;go_wp2;exact HJ _ _ (⟨_,bs su,bs X,bs Y,ByteArray.empty,bD,0,ByteArray.empty,bs K,M⟩:Op) true rfl (aA (aG (aG L.o 2 _) 3 _)) (aA (aF R9.o ((aI _).trans (aI _)) T)) (aA ((W.o.setCell (Nat.le_succ _) _).setCell (Nat.le_succ _) _)) (aA S.o) (aA (tF ag.o (by rw[cG];omega) HX.o.1 HX.o.2 C ad ah C (by rw[cG];omega)))
 have d2:(k==2)=false:=bN.2 (fun e=>aj (.inl e));have d6:(k==6)=false:=bN.2 (fun e=>aj (.inr e));by_cases k3:k=3
 .subst k3;have ab:=sG d;have f:=qU (bs d) (by rw[cG];omega) w8 (aa.o _ V.o);unfold rR at f;rw[kS] at f;have S:Hid (O=vG ((oS (cN (cN d).2).2).map (fun v=>(⟨3,bs su,bs (cN d).1,bs (cN (cN d).2).1,ByteArray.empty,v,0,ByteArray.empty,bs K,M⟩:Op)))):=aA Q.o;generalize cN d=c2 at *;obtain⟨X,r3⟩:=c2;dsimp only at f S ab;have cj:=sG r3;have ae:=fun w' (N:Below w.heap.size w w')=>qU (bs r3) (by rw[cG];omega) w' (aa.o _ N)
  unfold rR at ae;rw[kS] at ae;generalize cN r3=c3 at *;obtain⟨Y,r4⟩:=c3;dsimp only at ae S cj;have al:=fun w' (N:Below w.heap.size w w')=>YN (bs r4) w' (aa.o _ N).aDD
  rw[kS] at al;generalize oS r4=lo at *;obtain⟨f,ae,al⟩:=aY f ae al;have HX:Hid ((bs X).size<=1000000/\(bs Y).size<=1000000):=aA (by rw[cG,cG];omega);clear ab cj Q;go_wp2_with fail;refine f.o.mono ?_;rintro e w9 ⟨rfl,c⟩;obtain⟨L,R9,W⟩:=aY (aE Z.o c) (aE R8.o c) (aC V.o c);clear c f b0 b1 b2 F G b5 b6 b7 H I D E i j o p q t x y z A l m J;obtain⟨⟨b0,b1,b2,F,G,b5,b6,b7,H,I,D,E⟩,i,j,o,p,q,t,x,y,z,A,l,m⟩:=bL L.o;have J:=aD L.o;go_upto_region 17 with (fail)
  generalize ba:w9.setCell _ _=wa;have BA:Hid (wa.heap[w.heap.size+1]? =some (.cells #[.int .i64 3,.string (bs su),.string (bs X),.string ⟨#[]⟩,.string ⟨#[]⟩,.int .i64 0,.int .i64 0,.string ⟨#[]⟩,.int .i64 0,.string ⟨#[]⟩,.string (bs K),.bool M] 46 (0,0))):=aA (by rw[<-ba];exact aG L.o 2 _);have RA:=aA (show wa.heap[w.heap.size]? =some (.cells LU 46 (0,0)) from by rw[<-ba];exact aF R9.o (aI _) T);have bf:=aA (show Below w.heap.size w wa from by rw[<-ba];exact W.o.setCell (Nat.le_succ _) _);clear ba b0 b1 b2 F G b5 b6 b7 H I D E i j o p q t x y z A l m J;go_wp2_with fail;refine(ae.o wa bf.o).mono ?_;rintro e wb ⟨rfl,a6⟩;obtain⟨BB,RB,bw⟩:=aY (aE BA.o a6) (aE RA.o a6) (aC bf.o a6);clear a6 ae BA RA bf L R9 W;obtain⟨⟨b0,b1,b2,F,G,b5,b6,b7,H,I,D,E⟩,i,j,o,p,q,t,x,y,z,A,l,m⟩:=bL BB.o;have J:=aD BB.o;go_upto_region 18 with (fail)
  generalize bb:wb.setCell _ _=bc;have BD:Hid (bc.heap[w.heap.size+1]? =some (.cells #[.int .i64 3,.string (bs su),.string (bs X),.string (bs Y),.string ⟨#[]⟩,.int .i64 0,.int .i64 0,.string ⟨#[]⟩,.int .i64 0,.string ⟨#[]⟩,.string (bs K),.bool M] 46 (0,0))):=aA (by rw[<-bb];exact aG BB.o 3 _);have RD:=aA (show bc.heap[w.heap.size]? =some (.cells LU 46 (0,0)) from by rw[<-bb];exact aF RB.o (aI _) T);have bg:=aA (show Below w.heap.size w bc from by rw[<-bb];exact bw.o.setCell (Nat.le_succ _) _);clear bb b0 b1 b2 F G b5 b6 b7 H I D E i j o p q t x y z A l m J BB RB bw;go_wp2_with fail;refine(al.o bc bg.o).mono ?_;rintro e we ⟨ck,rfl,a7⟩;obtain⟨BE,RE,HBE⟩:=aY (aE BD.o a7) (aE RD.o a7) (aC bg.o a7);have af:Hid (O=vG (if lo.isSome=true then some (⟨3,bs su,bs X,bs Y,ByteArray.empty,(lo.getD bD),0,ByteArray.empty,bs K,M⟩:Op) else none)):=aA (by
   rw[S.o]
   cases lo
   .rfl
   .rfl)
  have cu:Hid (cS (lo.getD bD)):=aA (by
   cases lo
   .exact ad
   .exact ck _ rfl)
  generalize lo.getD bD=lv at *;generalize lo.isSome=ls at *;unfold dB;clear a7 al BD RD bg ck;obtain⟨⟨b0,b1,b2,F,G,b5,b6,b7,H,I,D,E⟩,i,j,o,p,q,t,x,y,z,A,l,m⟩:=bL BE.o;have J:=aD BE.o;go_wp2;exact HJ _ _ (⟨3,bs su,bs X,bs Y,ByteArray.empty,lv,0,ByteArray.empty,bs K,M⟩:Op) ls rfl (aA (aG (aG (aG BE.o 5 _) 6 _) 7 _)) (aA (aF RE.o (((aI _).trans (aI _)).trans (aI _)) T)) (aA (((HBE.o.setCell (Nat.le_succ _) _).setCell (Nat.le_succ _) _).setCell (Nat.le_succ _) _)) af (aA (tF ⟨qe,qe⟩ (by rw[cG];omega) HX.o.1 HX.o.2 C cu.o ah C (by rw[cG];omega)))
 have d3:(k==3)=false:=bN.2 k3;by_cases k4:k=4
 .have ab:=sG d;have f:=qU (bs d) (by rw[cG];omega) w8 (aa.o _ V.o);unfold rR at f;rw[kS] at f;subst k4;have S:Hid (O=vG (some (⟨4,bs su,bs (cN d).1,ByteArray.empty,bs (cN d).2,bD,0,ByteArray.empty,bs K,M⟩:Op))):=aA Q.o;generalize cN d=c2 at *;obtain⟨X,Y⟩:=c2;dsimp only at f S ab;have f:=aA f;have HX:Hid ((bs X).size<=1000000/\(bs Y).size<=1000000):=aA (by rw[cG,cG];omega);clear ab Q;go_wp2_with fail;refine f.o.mono ?_;rintro e w9 ⟨rfl,c⟩;obtain⟨L,R9,W⟩:=aY (aE Z.o c) (aE R8.o c) (aC V.o c);clear c b0 b1 b2 F G b5 b6 b7 H I D E i j o p q t x y z A l m J;obtain⟨⟨b0,b1,b2,F,G,b5,b6,b7,H,I,D,E⟩,i,j,o,p,q,t,x,y,z,A,l,m⟩:=bL L.o;have J:=aD L.o;go_wp2;exact HJ _ _ (⟨4,bs su,bs X,ByteArray.empty,bs Y,bD,0,ByteArray.empty,bs K,M⟩:Op) true rfl (aA (aG (aG L.o 2 _) 4 _)) (aA (aF R9.o ((aI _).trans (aI _)) T)) (aA ((W.o.setCell (Nat.le_succ _) _).setCell (Nat.le_succ _) _)) (aA S.o) (aA (tF ⟨qe,qe⟩ (by rw[cG];omega) HX.o.1 C HX.o.2 ad ah C (by rw[cG];omega)))
 have d4:(k==4)=false:=bN.2 k4;by_cases ar:k=5\/k=8
 .have an:=En (bs d) (by rw[cG];omega) w8 (aa.o _ V.o).aDD;unfold aP at an;rw[kS] at an;have cx:=WE d;have S:Hid (O=vG (some (⟨k,bs su,ByteArray.empty,ByteArray.empty,ByteArray.empty,bD,jF d,ByteArray.empty,bs K,M⟩:Op))):=aA (by have h:=Q.o;unfold AS at h;rw[iN k1,iN aj,iN k3,iN k4,iP ar] at h;exact h);generalize jF d=nv at *;have an:=aA an;have ag:Hid (bK k/\bK nv):=aA ⟨⟨qo,qo⟩,⟨qo,qo⟩⟩;clear cx Q
  rcases ar with rfl|rfl
  all_goals
   go_wp2_with fail;refine an.o.mono ?_;rintro e w9 ⟨rfl,c⟩;obtain⟨L,R9,W⟩:=aY (aE Z.o c) (aE R8.o c) (aC V.o c);clear c b0 b1 b2 F G b5 b6 b7 H I D E i j o p q t x y z A l m J;obtain⟨⟨b0,b1,b2,F,G,b5,b6,b7,H,I,D,E⟩,i,j,o,p,q,t,x,y,z,A,l,m⟩:=bL L.o;have J:=aD L.o;go_wp2;exact HJ _ _ (⟨_,bs su,ByteArray.empty,ByteArray.empty,ByteArray.empty,bD,nv,ByteArray.empty,bs K,M⟩:Op) true rfl (aA (aG L.o 8 _)) (aA (aF R9.o (aI _) T)) (aA (W.o.setCell (Nat.le_succ _) _)) (aA S.o) (aA (tF ag.o.1 (by rw[cG];omega) C C C ad ag.o.2 C (by rw[cG];omega)))
 have d5:(k==5)=false:=bN.2 (fun e=>ar (.inl e));have d8:(k==8)=false:=bN.2 (fun e=>ar (.inr e));by_cases k7:k=7
 .subst k7;go_wp2;exact HJ _ _ (⟨7,bs su,ByteArray.empty,ByteArray.empty,ByteArray.empty,bD,0,bs d,bs K,M⟩:Op) true rfl (aA (aG Z.o 9 _)) (aA (aF R8.o (aI _) T)) (aA (V.o.setCell (Nat.le_succ _) _)) (aA Q.o) (aA (tF ⟨qe,qe⟩ (by rw[cG];omega) C C C ad ah cn (by rw[cG];omega)))
 have d7:(k==7)=false:=bN.2 k7;have S:Hid (O=vG (some (⟨k,bs su,ByteArray.empty,ByteArray.empty,ByteArray.empty,bD,0,ByteArray.empty,bs K,M⟩:Op))):=aA (by have h:=Q.o;unfold AS at h;rw[iN k1,iN aj,iN k3,iN k4,iN ar,iN k7] at h;exact h);have ag:Hid (bK k):=aA ⟨qo,qo⟩;go_wp2;exact HJ _ _ (⟨k,bs su,ByteArray.empty,ByteArray.empty,ByteArray.empty,bD,0,ByteArray.empty,bs K,M⟩:Op) true rfl Z R8 V (aA S.o) (aA (tF ag.o (by rw[cG];omega) C C C ad ah C (by rw[cG];omega)))
theorem QDl{p:Prop}(h:p:=by
 rcases hown'.2 with ⟨_,h0⟩|⟨g,cap,cur,fz,hv,_⟩
 .omega
 .exact⟨g,cap,hv⟩):p:=h
theorem QDd{p:Prop}(h:p:=by
 rcases Nat.lt_or_ge b w1.heap.size with h'|h'
 .exact h'
 .simp[Array.getElem?_eq_none h'] at hbk):p:=h
abbrev Yt(B b:Nat)(p:Value)(l:List Value)(w:World):Prop:=Lib.BuilderAtF 203 5 B b p l w
abbrev GY(B b:Nat)(l:List Value)(w:World):Prop:=Lib.IsBuilderF 203 5 B b l w
abbrev tO(b:Nat):Value:= .pointer (some ⟨b,0,none⟩)
theorem Yu:(prog.info? 203).map (·.size)=some 2:=by kernel_rfl
theorem PX(B b:Nat)(l:List Value)(w:World)(h:GY B b l w):Calls prog 175 #[tO b] w fun e w'=>e=.returned (.tuple #[])/\Yt B b (tO b) l w'/\Below B w w':=by
 obtain⟨j,hj,c⟩:=Option.map_eq_some_iff.1 Yu
 rcases h with h|h
 .have h0:=h.cell0;have a:=h.shape;have d:=h.frozen0;go_enter func175,ntmps175;go_wp2;rw[Lib.run_to_unsafe w ⟨b,0,none⟩ underlying201 underlying308 hj (by rw[c];decide) a (Nat.zero_lt_succ 1)];simp only[Result.andThen];rw[Oper.upon_value];go_wp2;rw[run_callFunc_extern func219 (by kernel_rfl) (by kernel_rfl) (by kernel_rfl) (e:=Extern.AbiNoEscape.same) (by kernel_rfl)];rw[Lib.run_noEscape];simp only[Result.andThen];rw[Oper.upon_value];go_wp2;rw[Lib.run_from_unsafe w ⟨b,0,none⟩ underlying308 underlying201 hj a (by kernel_rfl)];simp only[Result.andThen];rw[Oper.upon_value];go_wp2;go_end0
  exact⟨rfl,h.used _,(Below.refl B w).setCell (p:=⟨b,0,none⟩) h.1 _⟩
 .have h0:=h.cell0;go_enter func175,ntmps175;go_wp2;rw[Lib.run_neq_ptr_same w _ underlying201 hj];go_wp2;go_end0
  exact⟨rfl,h,Below.refl B _⟩
theorem QZ(B b:Nat)(l:List Value)(c:Int)(w:World)(h:GY B b l w)(E:l.length<=100000)(D:B<=w.heap.size):Calls prog 118 #[tO b,.int .u8 c] w fun e w'=>e=.returned .nilIface/\Yt B b (tO b) (l++[.int .u8 c]) w'/\Below B w w':=by
 obtain⟨i0,t,z,A,C⟩:=info_parts uU;have r:=aA (PX B b l w h);go_enter func118,ntmps118;go_wp2_with fail;refine r.o.mono ?_;rintro e w1 ⟨rfl,⟨m,v,hbk,i,o⟩,a⟩;have c0:w1.cell? ⟨b,0,none⟩=some (tO b):=by rw[Lib.cell_of_heap hbk];rfl
 have c1:w1.cell? ⟨b,1,none⟩=some v:=by rw[Lib.cell_of_heap hbk];rfl
 go_wp2_with (at_builtin;refine wpList_append_ownF _ rfl _ _ 80 rfl B 5 i0 (.int .u8 0) 1 1 underlying80 t z A C rfl qe _ _ _ rfl (i.alloc _) ⟨w1.heap.size,0,none⟩ 1 1 [.int .u8 c] rfl rfl ?c1 ?c2 ?c3 ?c4 ?c5 ?_)
 case c1=>
  intro j u hj
  match j,hj with
  |0,hj=>simp at hj;subst hj;simp[Addr.add]
 case c2=>intro u hu;simp at hu;subst hu;rfl
 case c3=>unfold maxLen;omega
 case c4=>omega
 case c5=>have:=a.size;simp;omega
 intro v' w2 hown' f _;have y:b<w1.heap.size:=by
  exact QDd
 have d:w2.heap[b]? =some (.cells #[tO b,v] 203 (0,0)):=by
  rw[f.block b (by simp;omega) (fun e=>o e.symm),Lib.alloc_old w1 _ b y];exact hbk
 have n:Below B w w2:=(a.alloc (qA a.size) _).grown f (by have:=a.size;simp;omega) (fun k x=>(i.lt k x).1);have s:=aA (Lib.BuilderAtF.put (T:=203) (e:=5) (v':=v') m d (bs':=l++[.int .u8 c]) (by simpa using hown') qe);have q:=aA n;have d1:w2.cell? ⟨b,1,none⟩=some v:=by rw[Lib.cell_of_heap d];rfl
 have f1:w2.frozen? ⟨b,1,none⟩=false:=Lib.frozen_of_heap d 1;obtain⟨g,cap,rfl⟩:∃g cap,v'=.slice (some ⟨g,0,none⟩) (l.length+1) cap:=by
  exact QDl
 clear n hown' f d hbk i o a;go_wp2;go_ret;exact⟨rfl,s.o,q.o.setCell (p:=⟨b,1,none⟩) m _⟩
theorem LV(B b:Nat)(l:List Value)(s:bY)(w:World)(h:GY B b l w)(D:l.length<=100000)(F:0<s.size)(E:s.size<=100000)(C:B<=w.heap.size):Calls prog 119 #[tO b,.string s] w fun e w'=>e=.returned (.tuple #[.int .i64 s.size,.nilIface])/\Yt B b (tO b) (l++Lib.strCells s) w'/\Below B w w':=by
 obtain⟨i0,r,y,z,A⟩:=info_parts uU;have o:=aA (PX B b l w h);go_enter func119,ntmps119;go_wp2_with fail;refine o.o.mono ?_;rintro e w1 ⟨rfl,⟨i,v,hbk,f,m⟩,a⟩;have c0:w1.cell? ⟨b,0,none⟩=some (tO b):=by rw[Lib.cell_of_heap hbk];rfl
 have c1:w1.cell? ⟨b,1,none⟩=some v:=by rw[Lib.cell_of_heap hbk];rfl
 go_wp2_with (at_builtin;refine Lib.wpList_append_own_stringF _ rfl _ _ 80 9 rfl B 5 i0 underlying80 underlying9 r y z A _ _ _ rfl f s rfl ?c3 ?c4 ?c5 ?_)
 case c3=>unfold maxLen;omega
 case c4=>omega
 case c5=>have:=a.size;omega
 intro v' w2 hown' d _;have x:b<w1.heap.size:=by
  exact QDd
 have c:w2.heap[b]? =some (.cells #[tO b,v] 203 (0,0)):=by
  rw[d.block b x (fun e=>m e.symm)];exact hbk
 have j:Below B w w2:=a.grown d (qA a.size) (fun k t=>(f.lt k t).1);have q:=aA (Lib.BuilderAtF.put (T:=203) (e:=5) (v':=v') i c (bs':=l++Lib.strCells s) (by rw[aL,Lib.strCells_length];exact hown') qe);have n:=aA j;have d1:w2.cell? ⟨b,1,none⟩=some v:=by rw[Lib.cell_of_heap c];rfl
 have f1:w2.frozen? ⟨b,1,none⟩=false:=Lib.frozen_of_heap c 1;obtain⟨g,cap,rfl⟩:∃g cap,v'=.slice (some ⟨g,0,none⟩) (l.length+s.size) cap:=by
  exact QDl
 clear j hown' d c hbk f m a;go_wp2;go_ret2
 exact⟨rfl,q.o,n.o.setCell (p:=⟨b,1,none⟩) i _⟩
theorem QCM{p:Prop}(h:p:=by
 rintro e w2 ⟨rfl,hb⟩;have HB2:=qB HB1 hb;clear hb;go_wp2;go_ret;exact⟨by rw[HE4.o];rfl,HB2.o⟩):p:=h
theorem Yv{p:Prop}(h:p:=by
 rintro e w2 ⟨rfl,hb⟩;have HB2:=qB HB1 hb;clear hb;go_wp2;go_ret;exact⟨by rw[HE2.o];rfl,HB2.o⟩):p:=h
theorem Sy{p:Prop}(h:p:=by
 go_upto_region 8 with (fail)
 refine qL 14 (by kernel_rfl) (by kernel_rfl) ?_;simp only[List.take_succ_cons,List.take_zero,List.drop_succ_cons,List.drop_zero]
 repeat still_step
 refine wpStill_nil ?_;go_wp2_with fail;refine HQW.o.mono ?_;rintro e w2 ⟨rfl,hi,hb⟩;have HI2:=aA (HQR.o w2 (.inr hi));have HB2:=aA (HB.o.trans (Er.trans hb));clear hi hb HI HB HQW HQR;go_wp2;go_roundw
 case rel=>exact⟨k+1,qo,by go_num,HI2,HB2⟩
 case measure=>simp[intOf];omega):p:=h
def Ep:ByteArray:=⟨#[48,49,50,51,52,53,54,55,56,57,97,98,99,100,101,102]⟩
theorem Lf:∀k:Fin 16,Ep.extract k.val (k.val+1)=⟨#[JC k.val]⟩:=by decide +kernel
theorem DX(a b:lU):Lib.byteCells a++Lib.byteCells b=Lib.byteCells (a++b):=by unfold Lib.byteCells;rw[List.map_append]
theorem PY(l:lU):(Lib.byteCells l).length=l.length:=by unfold Lib.byteCells;rw[List.length_map]
def tG(l:lU):List UInt8:=34 ::l.flatMap uF
theorem AT(l:lU):(tG l).length<=1+3 * l.length:=by
 unfold tG;rw[List.length_cons];have h:(l.flatMap uF).length<=3 * l.length:=by
  induction l with
  |nil=>simp
  |cons c l a=>
   rw[List.flatMap_cons,aL,List.length_cons];have:(uF c).length<=3:=by unfold uF;split<;>simp
   omega
 omega
theorem PZ(l:lU)(c:UInt8):tG (l++[c])=tG l++uF c:=by unfold tG;rw[List.flatMap_append,List.flatMap_cons,List.flatMap_nil,List.append_nil,List.cons_append]
theorem QA{c:UInt8}:fC c=true↔¬c.toNat<32/\¬126<c.toNat/\c.toNat≠34/\c.toNat≠92:=by
 unfold fC;simp only[Bool.and_eq_true,decide_eq_true_eq];omega
theorem Lg{s:bY}{k:Nat}(h:k<s.size):s.data.toList.take (k+1)=s.data.toList.take k++[s[k]]:=by
 rw[List.take_add_one,gE (by rw[Array.length_toList];exact h),Option.toList_some];rfl
theorem aAg:∀x:Fin 256,bits .and .u8 (x.val:Int) 15=((x.val % 16:Nat):Int):=by decide +kernel
theorem Lh:∀x:Fin 16,IntKind.u8.wrap ((x.val:Int)+1)=((x.val+1:Nat):Int):=by decide +kernel
theorem Er{n:Nat}{w:World}:Below n w w.drew:=(Below.refl n w).drew
theorem Es(s:bY)(R:s.size<=64)(w:World):Calls prog 66 #[.string s] w (lD (.string (bs (FC s.data.toList))) w):=by
 have y:Below w.heap.size w (w.alloc (.cells #[.pointer none,.slice none 0 0] 203)):=aB _ _;have z:GY w.heap.size w.heap.size (Lib.byteCells []) (w.alloc (.cells #[.pointer none,.slice none 0 0] 203)):= .inl ⟨lR _,.slice none 0 0,aK _ _ _ rfl,World.ownsRowF_of (World.ownsRow_nil _ _ _ _),by simp[Value.ownBlock]⟩;have o:=aA (fun (l:lU) (c:UInt8) (w1:World) (h:GY w.heap.size w.heap.size (Lib.byteCells l) w1) (Q:l.length<=1000) (hb:w.heap.size<=w1.heap.size)=>QZ w.heap.size w.heap.size (Lib.byteCells l) (c.toNat:Int) w1 h (by rw[PY];omega) hb);have r:=aA z;have n:=aA y;unfold lD;clear z y;go_enter func66,ntmps66;go_wp2_with fail;refine(o.o [] 34 _ r.o qs n.o.size).mono ?_;rintro e w1 ⟨rfl,hi,hb⟩;have HI:=aA (Or.inr hi:GY w.heap.size w.heap.size (Lib.byteCells (tG [])) w1);have HB:=aA (n.o.trans hb);clear hi hb r n;go_wp2;go_loopw [9] (fun i wr=>∃(k:Nat),k<=s.size/\i=.int .i64 k/\Hid (GY w.heap.size w.heap.size (Lib.byteCells (tG (s.data.toList.take k))) wr)/\Hid (Below w.heap.size w wr)) (fun i _=>s.size - (intOf i).toNat)
 case atStart=>exact⟨0,qo,rfl,HI,HB⟩
 case round=>
  obtain⟨k,P,rfl,HI,HB⟩:=hrel;by_cases E:k<s.size
  .have O:(s[k].toNat:Int)<256:=qA (s[k].toNat_lt);obtain⟨c,d⟩:=xE (s[k]);have A:s.data.toList.take (k+1)=s.data.toList.take k++[c]:=by rw[d];exact Lg E
   by_cases hp:fC c=true
   .obtain⟨m,p,q,B⟩:¬c.toNat<32/\¬126<c.toNat/\c.toNat≠34/\c.toNat≠92:=QA.1 hp;have d1:decide ((c.toNat:Int)<32)=false:=dF qo;have d2:decide ((c.toNat:Int) > 126)=false:=dF qo;have d3:((c.toNat:Int)==34)=false:=bN.2 qo;have d4:((c.toNat:Int)==92)=false:=bN.2 qo;rw[d] at d1 d2 d3 d4;go_wp2_with fail;refine(o.o _ s[k] _ HI.o (by have:=AT (s.data.toList.take k);rw[List.length_take] at this;omega) HB.o.size).mono ?_;rintro e w2 ⟨rfl,hi,hb⟩;have HI2:Hid (GY w.heap.size w.heap.size (Lib.byteCells (tG (s.data.toList.take (k+1)))) w2):=aA (by rw[A,PZ,<-DX];unfold uF;rw[iP hp,d];exact .inr hi);have HB2:=aA (HB.o.trans hb);clear hi hb HI HB;go_wp2;go_roundw
    case rel=>exact⟨k+1,qo,by go_num,HI2,HB2⟩
    case measure=>simp[intOf];omega
   .have F:s[k].toNat<32\/(¬s[k].toNat<32/\126<s[k].toNat)\/(¬s[k].toNat<32/\¬126<s[k].toNat/\s[k].toNat=34)\/(¬s[k].toNat<32/\¬126<s[k].toNat/\s[k].toNat≠34/\s[k].toNat=92):=by
     rw[QA,d] at hp;omega
    obtain⟨a,ha⟩:=xE (s[k].toNat / 16);obtain⟨b,hb⟩:=xE (s[k].toNat % 16);have S:(s[k].toNat:Int) / 16=(a:Int):=qo;have qb:bits .and .u8 (s[k].toNat:Int) 15=(b:Int):=by rw[hb];exact aAg ⟨s[k].toNat,s[k].toNat_lt⟩
    have v:a<16:=qo;have x:b<16:=qo;have G:=Lh ⟨a,v⟩;have H:=Lh ⟨b,x⟩;have L:(0:Int)<=(a:Int):=qo;have a2:(a:Int)<=(a:Int)+1:=qo;have a3:(a:Int)+1<=16:=qo;have a4:(0:Int)<=(a:Int)+1:=qo;have b2:(b:Int)<=(b:Int)+1:=qo;have M:(b:Int)+1<=16:=qo;have N:(0:Int)<=(b:Int)+1:=qo;obtain⟨X,f⟩:∃X:bY,X=⟨#[JC a]⟩:=⟨_,rfl⟩;obtain⟨Y,g⟩:∃Y:bY,Y=⟨#[JC b]⟩:=⟨_,rfl⟩;have I:Ep.extract a (a+1)=X:=(Lf ⟨a,v⟩).trans f.symm;have J:Ep.extract b (b+1)=Y:=(Lf ⟨b,x⟩).trans g.symm;unfold Ep at I J;have U:X.size=1:=by rw[f];rfl
    have V:Y.size=1:=by rw[g];rfl
    have j:(⟨#[92]⟩++X++Y:bY)=⟨#[92,JC a,JC b]⟩:=by rw[f,g];rfl
    have HQW:=aA (LV w.heap.size w.heap.size (Lib.byteCells (tG (s.data.toList.take k))) (⟨#[92]⟩++X++Y) wr.drew HI.o (by rw[PY];have:=AT (s.data.toList.take k);rw[List.length_take] at this;omega) (by rw[j];show 0<3;decide) (by rw[j];show 3<=100000;decide) HB.o.size);have HQR:Hid (∀w2:World,GY w.heap.size w.heap.size (Lib.byteCells (tG (s.data.toList.take k))++Lib.strCells (⟨#[92]⟩++X++Y)) w2->GY w.heap.size w.heap.size (Lib.byteCells (tG (s.data.toList.take (k+1)))) w2):=aA (fun w2 h=>by rw[A,PZ,<-DX];rw[j] at h;unfold uF;rw[iN hp,d,<-ha,<-hb];exact h);have K:=aA (And.intro ha hb);clear f g j;clear ha hb;dsimp only at G H
    rcases F with m|⟨m,p⟩|⟨m,p,q⟩|⟨m,p,q,B⟩
    .have d1:decide ((s[k].toNat:Int)<32)=true:=dX qo;exact Sy
    .have d1:decide ((s[k].toNat:Int)<32)=false:=dF qo;have d2:decide ((s[k].toNat:Int) > 126)=true:=dX qo;exact Sy
    .have d1:decide ((s[k].toNat:Int)<32)=false:=dF qo;have d2:decide ((s[k].toNat:Int) > 126)=false:=dF qo;have d3:((s[k].toNat:Int)==34)=true:=bQ.2 qo;clear q;exact Sy
    .have d1:decide ((s[k].toNat:Int)<32)=false:=dF qo;have d2:decide ((s[k].toNat:Int) > 126)=false:=dF qo;have d3:((s[k].toNat:Int)==34)=false:=bN.2 qo;have d4:((s[k].toNat:Int)==92)=true:=bQ.2 qo;clear B;exact Sy
  .have D:k=s.size:=qo;rw[D,List.take_of_length_le (by rw[Array.length_toList];exact lR _)] at HI;go_wp2_with fail;refine(o.o _ 34 _ HI.o (by have:=AT s.data.toList;have h2:s.data.toList.length=s.size:=(by rw[Array.length_toList];rfl);omega) HB.o.size).mono ?_;rintro e w2 ⟨rfl,hi,hb⟩;have t:=aA (Builder_String_any_k w.heap.size w.heap.size (tG s.data.toList++[34]) w2 (by rw[<-DX];exact .inr hi) (HB.o.trans hb).size);have HB2:=aA (HB.o.trans hb);clear hi hb HI HB;go_wp2_with fail;refine t.o.mono ?_;rintro e T ⟨rfl,-,hb,-⟩;have C:=aA (HB2.o.trans hb);clear hb t HB2;go_wp2;go_ret;exact⟨rfl,C.o⟩
theorem Et(B:Nat)(w:World)(k:Nat)(os:Array Obj)(h:B<=w.heap.size):Below B w (Go.Sort.grow (w.drewN k) os):=by
 have h1:Below B w (w.drewN k):=fI (Below.refl B w) ⟨k,rfl⟩;have h2:w.heap.size<=(w.drewN k).heap.size:=h1.size;exact⟨h1.os,h1.tape,h1.output,by show _<=((w.drewN k).heap++os).size;rw[Array.size_append];omega,fun j hj=>by
  show ((w.drewN k).heap++os)[j]? =_;rw[Array.getElem?_append_left qo];exact h1.block j hj⟩
theorem AU(n:Int)(a:bK n)(w:World)(b:Gl w):Calls prog 27 #[.int .i64 n] w (lD (.string (bs (mJ n))) w):=by
 refine(strconv_Itoa n a.1 a.2 w b.tab).mono ?_;rintro e w' ⟨rfl,k,os,rfl⟩;exact⟨rfl,Et _ w k os (lR _)⟩
theorem An(b:Bool)(w:World):Calls prog 65 #[.bool b] w (lD (.string (bs (if b=true then eM "true" else eM "false"))) w):=by
 refine(strconv_FormatBool b w).mono ?_;rintro e w' ⟨rfl,rfl⟩;refine⟨?_,Below.refl _ _⟩
 cases b<;>rfl
theorem Qp{v:V3}(h:aT v=false):vF v=[]:=iP h
theorem Qq{k n:Int}{s:bY}(h:aT (k,n,s)=true):vF (k,n,s)=(if k=1 then (if n=1 then eM "true" else eM "false") else if k=4 then [64]++mJ n else if k=5 then [35]++s.data.toList else if k=3 then FC s.data.toList else mJ n):=by
 unfold vF;rw[iN (by rw[h];decide)]
theorem GZ{n:Int}{s:bY}(h:aT (3,n,s)=true):s.size<=64:=by
 unfold aT at h;simp at h;exact h.2
theorem uG(n:Int)(b:bK n):(bs (mJ n)).size<=100:=by
 have a:∀k u:Nat,u<10 ^ (k+1)->(Lib.decDigits u).length<=k+1:=by
  intro k
  induction k with
  |zero=>intro u hu;rw[Lib.decDigits_one qo];exact lR _
  |succ k c=>
   intro u hu;rw[Lib.decDigits];split
   .simp
   .rw[aL];have:=c (u / 10) (by rw[Nat.pow_succ] at hu;omega);simp only[List.length_cons,List.length_nil];omega
 have h0:=b.1;have h1:=b.2;have h2:(bs (mJ n)).size=(mJ n).length:=by unfold bs;exact List.size_toArray
 rw[h2];unfold mJ Lib.itoa;split
 .have:=a 19 n.natAbs qo;rw[List.length_cons];omega
 .have:=a 19 n.toNat qo;omega
theorem Li(v:V3)(x:cS v)(w:World)(C:Gl w):Calls prog 28 #[dB v] w (lD (.string (bs (vF v))) w):=by
 obtain⟨k,n,s⟩:=v;obtain⟨W0,i⟩:=xE (w.alloc (.cells #[.int .i64 k,.int .i64 n,.string s] 44));have r:Below w.heap.size w W0:=by rw[i];exact aB _ _
 have R:Hid (W0.heap[w.heap.size]? =some (.cells #[.int .i64 k,.int .i64 n,.string s] 44 (0,0))):=aA (by rw[i];exact aK _ _ _ rfl);obtain⟨O,t⟩:=xE (vF (k,n,s));rw[<-t];obtain⟨A,J,f,z,I,N⟩:=hD6 (nJ k n s (by have:s.size<=cQ:=x.2.2;unfold cQ at this;unfold maxLen;omega) W0) (C.on r) x t r i;unfold lD dB;clear r i C x t;obtain⟨⟨E,F,G⟩,-⟩:=cD R.o;have H:=aD R.o;go_enter func28,ntmps28;go_upto_region 1 with (fail)
 rw[<-N.o];go_wp2_with fail;refine A.o.mono ?_;rintro e w1 ⟨rfl,hb⟩;obtain⟨HB1,B,y⟩:=aY (aC I.o hb) (aE R.o hb) (J.o.on hb);clear E F G H hb A;obtain⟨⟨E,F,G⟩,-⟩:=cD B.o;have H:=aD B.o
 cases g:aT (k,n,s)
 .have c:=aA (z.o.trans (Qp g));go_wp2;go_ret;exact⟨by rw[c.o];rfl,HB1.o⟩
 .have c:=aA (z.o.trans (Qq g));have M:=aA g;clear g;by_cases j:k=1
  .have b:=aA (c.o.trans (iP j));subst j;by_cases a:n=1
   .have d1:(n==(1:Int))=true:=bQ.2 a;have p:=aA (An true w1);have HE2:=aA (b.o.trans (iP a));clear a;go_wp2_with fail;refine p.o.mono ?_;exact Yv
   .have d1:(n==(1:Int))=false:=bN.2 a;have p:=aA (An false w1);have HE2:=aA (b.o.trans (iN a));clear a;go_wp2_with fail;refine p.o.mono ?_;exact Yv
  .have c1:(k==(1:Int))=false:=bN.2 j;have b:=aA (c.o.trans (iN j));by_cases m:k=4
   .have HE2:=aA (b.o.trans (iP m));subst m;have q:=aA (AU n f.o.2.1 w1 y.o);have D:=uG n f.o.2.1;generalize mJ n=L at *;go_wp2_with fail;refine q.o.mono ?_;exact Yv
   .have c4:(k==(4:Int))=false:=bN.2 m;have HE2:=aA (b.o.trans (iN m));by_cases o:k=5
    .have d:=aA (HE2.o.trans (iP o));subst o;have D:s.size<=cQ:=f.o.2.2;unfold cQ at D;go_wp2;go_ret;exact⟨by rw[d.o];rfl,HB1.o⟩
    .have c5:(k==(5:Int))=false:=bN.2 o;have d:=aA (HE2.o.trans (iN o));by_cases l:k=3
     .have HE4:=aA (d.o.trans (iP l));subst l;have K:=aA (Es s (GZ M.o) w1);go_wp2_with fail;refine K.o.mono ?_;exact QCM
     .have c3:(k==(3:Int))=false:=bN.2 l;have HE4:=aA (d.o.trans (iN l));have q:=aA (AU n f.o.2.1 w1 y.o);go_wp2_with fail;refine q.o.mono ?_;exact QCM
theorem QAl{p:Prop}(h:p:=by
 by_cases z5:0<r.at_
 .have HN2:=aA (HN.o.trans (iP ⟨z0,z5⟩));have d5:decide (r.at_ > (0:Int))=true:=dX z5;have p0:∀p:In (AZ W0),p.w.cell? ⟨w.heap.size,0,none⟩=some (.int .i64 r.err):=fun p=>(p.h.cell zr).trans r0
  have p7:∀p:In (AZ W0),p.w.cell? ⟨w.heap.size,7,none⟩=some (.int .i64 r.at_):=fun p=>(p.h.cell zr).trans r7
  have HX:=aA (fun (n:Int) (hn:bK n) w' (hb':Below W0.heap.size W0 w')=>(AU n hn w' (HG.o.on hb')).mono fun e w2 (h:lD _ w' e w2)=>(⟨h.1,aC hb' h.2⟩:e=_/\Below W0.heap.size W0 w2));have hs1:=uG r.err HE.o;have hs2:=uG r.at_ HA.o;have HX1:=aA (HX.o r.err HE.o);have HX2:=aA (HX.o r.at_ HA.o);obtain⟨L1,hL1⟩:=xE (mJ r.err);obtain⟨L2,hL2⟩:=xE (mJ r.at_);rw[<-hL1,<-hL2] at HN2;rw[<-hL1] at hs1 HX1;rw[<-hL2] at hs2 HX2;obtain⟨l1,hl1⟩:=xE (bs L1);obtain⟨l2,hl2⟩:=xE (bs L2);rw[<-hl1] at hs1 HX1;rw[<-hl2] at hs2 HX2;have HL1:=aA hl1;have HL2:=aA hl2;clear hL1 hL2 z0 z5 HX hl1 hl2;go_upto_region 4 with (fail)
  refine BV (C:=AZ W0) (by kernel_rfl) (by kernel_rfl) (SC W0) ?_
  repeat (go_big_quiet_step (first|exact in_call fun w' hb=>HX1.o w' hb|exact in_call fun w' hb=>HX2.o w' hb))
  refine wpQuiet_nil ?_;intro w2 hb2;have HB2:=qB HB0 (show Below W0.heap.size W0 w2 from hb2);clear hb2;go_wp2;go_ret;exact⟨by rw[HN2.o,HL1.o,HL2.o];rfl,HB2.o⟩
 .have HN2:=aA (HN.o.trans ((iN (fun h=>z5 h.2)).trans (iP z0)));have d5:decide (r.at_ > (0:Int))=false:=dF z5;have HX:=aA (AU r.err HE.o W0 HG.o);have hs1:=uG r.err HE.o;generalize mJ r.err=L1 at *;clear z0 z5;go_wp2_with fail;refine HX.o.mono ?_;rintro e w2 ⟨rfl,hb⟩;have HB2:=qB HB0 hb;clear hb;go_wp2;go_ret;exact⟨by rw[HN2.o];rfl,HB2.o⟩):p:=h
theorem Lj(m:Mk):Cm.bT m=bs (FB m):=by
 unfold Cm.bT FB;split
 .rfl
 split
 .rfl
 split
 .rfl
 split
 .rfl
 split
 .rfl
 split
 .rfl
 rfl
theorem Lk(m:Mk):(bs (FB m)).size<=100:=by
 unfold FB
 repeat (split;(· decide))
 decide
theorem Ll(v:V3)(a:cS v):(bs (vF v)).size<=1000100:=by
 have b:=uG v.2.1 a.2.1;rw[cG] at b ⊢;have e:v.2.2.data.toList.length<=1000000:=by rw[Array.length_toList];exact a.2.2
 unfold vF;split
 .simp
 rename_i c;split
 .split<;>decide
 split
 .rw[aL];simp only[List.length_cons,List.length_nil];omega
 split
 .rw[aL];simp only[List.length_cons,List.length_nil];omega
 split
 .rename_i h3;have h64:v.2.2.size<=64:=GZ (n:=v.2.1) (s:=v.2.2) (by
   have h4:v=(3,v.2.1,v.2.2):=by rw[<-h3]
   rw[<-h4];simpa using c)
  have d:=AT v.2.2.data.toList;have h5:v.2.2.data.toList.length=v.2.2.size:=by rw[Array.length_toList];rfl
  have h6:FC v.2.2.data.toList=tG v.2.2.data.toList++[34]:=rfl;rw[h6,aL];simp only[List.length_cons,List.length_nil];omega
 .omega
theorem Eu(r:Rpl)(hm:Cm.QP r.mark)(A:cS r.val)(he:bK r.err)(ha:bK r.at_)(w:World)(z:Gl w):Calls prog 12 #[.agg (eV r)] w (lD (.string (pO r)) w):=by
 obtain⟨O,q⟩:=xE (vN r);unfold pO;rw[<-q];obtain⟨k,B,v,HE,HA⟩:=gC q (Cm.AE r.mark hm) A he ha;obtain⟨W0,c⟩:=xE (w.alloc (.cells (eV r) 71));have o:Below w.heap.size w W0:=by rw[c];exact aB _ _
 have R:Hid (W0.heap[w.heap.size]? =some (.cells (eV r) 71 (0,0))):=aA (by rw[c];exact aK _ _ _ rfl);have HB0:=aA o;have HG:=aA (z.on o);unfold eV at c R ⊢;have D:=aA c;unfold lD;clear o c q A he ha z;obtain⟨⟨r0,I,J,K,M,N,P,r7⟩,-⟩:=nO R.o;have zr:=aD R.o;obtain⟨y,s⟩:∃b,decide (r.mark=((4,0):Mk))=b:=⟨_,rfl⟩;have G:((FloatKind.f64.format.order (Cm.qb r.mark.1) 4607182418800017408==some .eq)&&(FloatKind.f64.format.order (Cm.qb r.mark.2) 0==some .eq))=y:=(Cm.iS r.mark.1 r.mark.2 4 0 hm qe qe).trans ((sB r.mark (4,0)).trans s);have t:=aA s;clear s hm;go_enter func12,ntmps12;go_upto_region 1 with (fail)
 rw[<-D.o];by_cases h12:r.err=12
 .have d12:(r.err==(12:Int))=true:=bQ.2 h12;have z0:r.err≠0:=qo;have m:(r.err != (0:Int))=true:=bne_iff_ne.2 z0
  cases y
  .have HN:=aA (k.o.trans (iP ⟨h12,of_decide_eq_false t.o⟩));have H:=Lk r.mark;have l:=aA (B.o W0);rw[Lj r.mark] at l;clear h12 z0 m;generalize FB r.mark=L at *;unfold Cm.mk at l;go_wp2_with fail;refine l.o.mono ?_;rintro e w1 ⟨rfl,rfl⟩;go_wp2;go_ret;exact⟨by rw[HN.o];rfl,HB0.o⟩
  .have HN:=aA (k.o.trans (iN (fun h=>h.2 (of_decide_eq_true t.o))));clear h12;exact QAl
 .have d12:(r.err==(12:Int))=false:=bN.2 h12;have HN:=aA (k.o.trans (iN (fun h=>h12 h.1)));clear h12;by_cases z0:r.err=0
  .have m:(r.err != (0:Int))=false:=by rw[z0];rfl
   have HN2:=aA (HN.o.trans ((iN (fun h=>h.1 z0)).trans (iN (fun h=>h z0))));clear z0;by_cases g:r.aDc=true
   .have d:=aA (HN2.o.trans (iP g));go_wp2;go_ret;exact⟨by rw[d.o];rfl,HB0.o⟩
   .have d:=aA (HN2.o.trans (iN g));have dg:r.aDc=false:=by simpa using g
    clear g;by_cases i:r.hidden=true
    .have f:=aA (d.o.trans (iP i));go_wp2;go_ret;exact⟨by rw[f.o];rfl,HB0.o⟩
    .have f:=aA (d.o.trans (iN i));have F:r.hidden=false:=by simpa using i
     clear i;by_cases a:r.val=bD
     .have j:=aA (f.o.trans (iN (fun h=>h a)));have E:∀w,Sem.run prog (binOp .neq 44 (.agg #[.int .i64 r.val.1,.int .i64 r.val.2.1,.string r.val.2.2]) (.agg #[.int .i64 0,.int .i64 0,.string ⟨#[]⟩])) w=.ok (.bool false) w:=fun w=>(yP r.val bD w).trans (by rw[dX a];rfl)
      clear a;go_wp2;go_ret;exact⟨by rw[j.o];rfl,HB0.o⟩
     .have j:=aA (f.o.trans (iP a));have E:∀w,Sem.run prog (binOp .neq 44 (.agg #[.int .i64 r.val.1,.int .i64 r.val.2.1,.string r.val.2.2]) (.agg #[.int .i64 0,.int .i64 0,.string ⟨#[]⟩])) w=.ok (.bool true) w:=fun w=>(yP r.val bD w).trans (by rw[dF a];rfl)
      have HX:=aA (Li r.val v.o W0 HG.o);have hs1:=Ll r.val v.o;unfold dB at HX;clear a;generalize vF r.val=L at *;go_wp2_with fail;refine HX.o.mono ?_;rintro e w2 ⟨rfl,hb⟩;have HB2:=qB HB0 hb;clear hb;go_wp2;go_ret;exact⟨by rw[j.o];rfl,HB2.o⟩
  .have m:(r.err != (0:Int))=true:=bne_iff_ne.2 z0;exact QAl
structure eG (p:PS):Prop where
 b0:0<=p.bad
 b1:p.bad<=100
 q0:0<=p.place
 q1:p.place<=1000000
section
variable {L:List Tok} (T:Toks L)
theorem WG{e q:Int}{p:PS}(h:eG p)(h0:0<=e)(h1:e<=100)(h2:0<=q)(h3:q<=1000000):eG (eO e q p):=by
 unfold eO;split
 .exact⟨h0,h1,h2,h3⟩
 .exact h
include T
theorem Vu(p:PS):0<=(aU L p).at_/\(aU L p).at_<=4096:=by
 unfold aU
 rcases h:L[p.at_]? with _|t
 .exact⟨qe,qe⟩
 .exact T.place t (List.mem_of_getElem? h)
theorem AW{e:Int}(r:PS){p:PS}(h:eG p)(h0:0<=e)(h1:e<=100):eG (eO e (aU L r).at_ p):=by
 have:=Vu T r;exact WG h h0 h1 this.1 qo
theorem pF{p:PS}(h:eG p):eG (dM L p):=AW T p h qe qe
theorem tH(b:Bool){p:PS}(h:eG p):eG (cR L b p):=by
 unfold cR;split
 .exact AW T p h qe qe
 .exact h
omit T in
theorem nA{p:PS}{n:Nat}(h:eG p):eG {p with at_:=n}:=⟨h.b0,h.b1,h.q0,h.q1⟩
omit T in
theorem Vv(s:bY){p:PS}(h:eG p):eG (kL L s p).2:=by
 unfold kL;split
 .exact nA h
 .exact h
theorem pP(s:bY){p:PS}(h:eG p):eG (eH L s p):=by
 unfold eH;split
 .exact nA h
 .exact pF T h
theorem yV{p:PS}(h:eG p):eG (bT L p).2:=by
 unfold bT;dsimp only;by_cases a:(aU L p).aCJ≠1
 .rw[iP a];split
  .exact pF T h
  .exact nA (pF T h)
 .rw[iN a];split
  .exact h
  .exact nA h
theorem pG(words:List ByteArray){p:PS}(h:eG p):eG (aZ L words p).2:=by
 unfold aZ;dsimp only;split
 .exact nA h
 .exact pF T h
theorem Ao{p:PS}(h:eG p):eG (cE L p).2:=by
 unfold cE;dsimp only;exact Vv _ (yV T (pP T _ (pG T _ h)))
theorem QB{p:PS}(h:eG p):eG (eQ L p).2:=by
 unfold eQ;dsimp only
 repeat (split;(· exact h))
 exact pF T h
theorem WH{p:PS}(h:eG p):eG (cY L p).2:=by
 rw[zG];split
 .exact QB T h
 .exact nA (QB T h)
theorem aAh{p:PS}(h:eG p):eG (sH L p).2:=by
 unfold sH
 repeat (split;(· exact nA h))
 exact pF T h
theorem WI{p:PS}(h:eG p):eG (eD L p).2:=by
 unfold eD;dsimp only;exact WH T (aAh T (Ao T h))
theorem yW{α:Type}{one:PS->α×PS}(a:∀{p:PS},eG p->eG (one p).2)(sep:bY):∀(f:Nat) (l:List α) {p:PS},eG p->eG (jS L one sep f l p).2
 |0,l,p,h=>h
 |f+1,l,p,h=>by
  unfold jS;split
  .exact yW a sep f _ (tH T _ (a (nA h)))
  .exact h
theorem Lm{p:PS}(h:eG p):eG (iX L p).2:=by
 unfold iX;dsimp only;exact yW T (WI T) _ _ _ (WI T h)
theorem Ln{p:PS}(h:eG p):eG (mC L p).2:=by
 unfold mC;dsimp only;exact pP T _ (yW T (Lm T) _ _ _ (Lm T (pP T _ h)))
theorem DY{p:PS}(h:eG p):eG (bU L p).2:=by
 unfold bU;split
 .dsimp only;exact yW T (Ln T) _ _ _ (Ln T (nA h))
 .exact h
theorem Vw{p:PS}(h:eG p):eG (tI L p).2:=by
 unfold tI;dsimp only;exact yV T (pG T _ (pG T _ h))
theorem AX{p:PS}(h:eG p):eG (gL L p).2:=yW T (Vw T) _ _ _ h
theorem Aq:∀(f:Nat) (l:List No) {p:PS},eG p->eG (eW L f l p).2
 |0,l,p,h=>by unfold eW;exact h
 |f+1,l,p,h=>by
  have c:∀{l:List No} {p:PS} (must:Bool),eG p->eG (dC L f (l,p) must).2:=by
   intro l p must h;unfold dC;dsimp only;split
   .exact h
   .have h1:=Aq f l h;split
    .exact AW T _ h1 qe qe
    .exact h1
  have b:∀(ms:List Bool) {l:List No} {p:PS},eG p->eG (ms.foldl (dC L f) (l,p)).2:=by
   intro ms
   induction ms with
   |nil=>intro l p h;exact h
   |cons m ms d=>
    intro l p h;have h1:=c (l:=l) m h;exact d h1
  unfold eW;dsimp only;by_cases a:cL L (str "(") p=true
  .rw[iP a];exact tH T _ (pP T _ (b (fK (2+(aZ L eB {p with at_:=p.at_+1}).1)) (l:=l) (pG T _ (nA h))))
  .rw[iN a];split
   .exact tH T _ (Ao T h)
   .exact tH T _ (WH T h)
theorem Ev(l:List No)(must:Bool){p:PS}(h:eG p):eG (jA L l must p).2:=by
 unfold jA;dsimp only;have h1:=Aq T L.length l h;split
 .exact AW T _ h1 qe qe
 .exact h1
theorem Vx(deny:Bool){p:PS}(h:eG p):eG (kM L deny p).2:=by
 unfold kM;dsimp only;refine pP T _ (AX T ?_);have h2:=DY T (yV T h);split
 .exact Ev T _ _ (nA h2)
 .exact h2
theorem NH:∀(f:Nat) (l:List Ru) {p:PS},eG p->eG (iH L f l p).2
 |0,l,p,h=>by unfold iH;exact h
 |f+1,l,p,h=>by
  unfold iH;split
  .dsimp only;have h1:=tH T (decide (l.length=16)||decide (p.aCM=64)) h;split
   .exact h1
   .exact NH f _ (Vx T _ ⟨h1.b0,h1.b1,h1.q0,h1.q1⟩)
  .exact h
theorem NI{one:PS->Po×PS}(a:∀{p:PS},eG p->eG (one p).2)(deep:Bool):∀(f:Nat) (l:List Po) {p:PS},eG p->eG (gM L one deep f l p).2
 |0,l,p,h=>by unfold gM;exact h
 |f+1,l,p,h=>by
  unfold gM;split
  .dsimp only;have h1:=tH T (decide (l.length=16)||deep) h;split
   .exact h1
   .exact NI a deep f _ (a h1)
  .exact h
theorem Lo:∀(n:Nat) {p:PS},eG p->eG (cO L n p).2:=by
 intro n
 induction n with
 |zero=>
  intro p h;unfold cO;dsimp only;refine AX T (pP T _ ?_);have h5:=pP T qX (DY T (pG T dE (yV T (pG T [str "policy",str "set"] h))));split
  .exact NI T (one:=fun q=>(mB,q)) (fun h=>h) true L.length [] h5
  .exact NH T L.length [] h5
 |succ n a=>
  intro p h;unfold cO;dsimp only;refine AX T (pP T _ ?_);have h5:=pP T qX (DY T (pG T dE (yV T (pG T [str "policy",str "set"] h))));split
  .exact NI T a false L.length [] h5
  .exact NH T L.length [] h5
end
def Sm(x:List Tok×Int×Int):Prop:=0<=x.2.1/\x.2.1<=100/\0<=x.2.2/\x.2.2<=1000000
theorem Lp{n:Nat}(h:n<=10000):Sm ([],5,(n:Int)):=⟨by show (0:Int)<=5;decide,by show (5:Int)<=100;decide,by show (0:Int)<=(n:Int);omega,by show (n:Int)<=1000000;omega⟩
theorem Yw(l:List Tok):Sm (l,0,0):=⟨by show (0:Int)<=0;decide,by show (0:Int)<=100;decide,by show (0:Int)<=0;decide,by show (0:Int)<=1000000;decide⟩
theorem JF:∀(f:Nat) (l:lU) (n:Nat) (out:List Tok),n+l.length<=4096->Sm (jI f l n out)
 |0,l,n,out,h=>Lp qo
 |f+1,[],n,out,h=>Yw _
 |f+1,c::r,n,out,h=>by
  have a:=(qC (c::r) qo).le;rw[List.length_cons] at h a;unfold jI;dsimp only;split
  .exact JF f r (n+1) out qo
  .split
   .exact Lp qo
   .refine JF f _ _ _ ?_;rw[List.length_drop,List.length_cons];omega
theorem Yx(l:lU):Sm (jM l):=by
 unfold jM;split
 .exact⟨by show (0:Int)<=6;decide,by show (6:Int)<=100;decide,by show (0:Int)<=4096;decide,by show (4096:Int)<=1000000;decide⟩
 .exact JF _ _ _ _ qo
theorem Yy{l:List Tok}(T:Toks l)(S:bY)(b:S.size<=1000000)(X:Po×PS)(a:eG X.2):eG (wL S X.1 (ZZ l X.2)):=by
 have h2:eG (ZZ l X.2):=by
  unfold ZZ;split
  .exact pF T a
  .exact a
 unfold wL;split
 .exact WG h2 qe qe qo qo
 .exact h2
theorem Yz(P:Po){p:PS}(h:eG p):(0<=(uO P p).2.1/\(uO P p).2.1<=100)/\0<=(uO P p).2.2/\(uO P p).2.2<=1000000:=by
 unfold uO;split
 .exact⟨⟨h.b0,h.b1⟩,h.q0,h.q1⟩
 .exact⟨⟨Int.le_refl _,by show (0:Int)<=100;decide⟩,Int.le_refl _,by show (0:Int)<=1000000;decide⟩
theorem WJ(S:bY)(c:S.size<=1000000):(0<=(fD S).2.1/\(fD S).2.1<=100)/\0<=(fD S).2.2/\(fD S).2.2<=1000000:=by
 have h:=Yx S.data.toList;have b:=SH (l:=S.data.toList);obtain⟨x,a⟩:=xE (jM S.data.toList);rw[<-a] at h b;obtain⟨l,e,q⟩:=x;by_cases he:e=0
 .subst he;have T:=(b rfl).1;rw[PD a.symm];exact Yz _ (Yy T S c _ (Lo T 3 ⟨qe,qe,qe,qe⟩))
 .rw[VB a.symm he];exact⟨⟨h.1,h.2.1⟩,h.2.2.1,h.2.2.2⟩
end Go.Proofs.YtgoanbpcdhmfkaaGreatDoor
