/- Lemmas. -/
import Derived.Test.YthcgdgkpgdjahaaGreatDoorMbp
namespace Go.Proofs.YthcgdgkpgdjahaaGreatDoor
open Go.RowKit
set_option linter.unusedVariables false
set_option linter.unusedSimpArgs false
set_option maxHeartbeats 16000000
open _root_.Go.Proofs.Tryz
set_option maxRecDepth 20000
theorem QBS{p:Prop}(h:p:=by
 go_wp2;refine bR (.tuple #[.agg #[.int .i64 0,.int .i64 0,.string ⟨#[]⟩],.bool false]) ?_;exact XW HN.o (((HB1.o.setCell (lR _) _).setCell (lR _) _).setCell (lR _) _)):p:=h
theorem QBR{p:Prop}(h:p:=by
 go_wp2;refine bR (.tuple #[.agg #[.int .i64 0,.int .i64 0,.string ⟨#[]⟩],.bool false]) ?_;exact XW HN.o (((HB2.o.setCell (lR _) _).setCell (lR _) _).setCell (lR _) _)):p:=h
def OR(o:Option V3)(w:World)(e:Ending)(w':World):Prop:=(∀v,o=some v->cS v)/\e=.returned (.tuple #[dC (o.getD aY),.bool o.isSome])/\Below w.heap.size w w'
theorem XW{o:Option V3}{w w':World}(h:o=none)(a:Below w.heap.size w w'):OR o w (.returned (.tuple #[.agg #[.int .i64 0,.int .i64 0,.string ⟨#[]⟩],.bool false])) w':=by subst h;exact⟨fun v h=>(by cases h),rfl,a⟩
theorem tR{o:Option V3}{w w':World}{v:V3}(h:o=some v)(b:cS v)(a:Below w.heap.size w w'):OR o w (.returned (.tuple #[.agg #[.int .i64 v.1,.int .i64 v.2.1,.string v.2.2],.bool true])) w':=by
 subst h;exact⟨fun u h=>by injection h with h;rw[<-h];exact b,rfl,a⟩
def GI(r:List Tok×Int×Int):Option V3:=
 match r with
 |([t,_],0,_)=>
  if t.aDN=2 then some (2,t.num,t.str) else if t.aDN=3 then some (4,t.num,t.str) else if t.aDN=4 then some (5,t.num,t.str)
  else if t.aDN=5 then some (3,t.num,t.str)
  else if t.aDN=1 then (if t.str=str "true" then some (1,1,ByteArray.empty) else if t.str=str "false" then some (1,0,ByteArray.empty) else none)
  else none
 |_=>none
theorem Tb(l:lU):pC l=GI (jU l):=rfl
theorem Xz{T:List Tok}{e p:Int}(h:e≠0):GI (T,e,p)=none:=by
 unfold GI;split
 .rename_i h0;injection h0 with _ h1;injection h1 with h1 _;exact absurd h1 h
 .rfl
theorem Ya{T:List Tok}{e p:Int}(h:T.length≠2):GI (T,e,p)=none:=by
 unfold GI;split
 .rename_i h0;injection h0 with h1 _;rw[h1] at h;exact absurd rfl h
 .rfl
theorem Al(s:bY)(w:World)(hg:iA w):Calls prog 22 #[.string s] w (OR (pC s.data.toList) w):=by
 obtain⟨O,E⟩:=xE (pC s.data.toList);rw[<-E];obtain⟨W0,I⟩:=xE (w.alloc (.cells fW 30));have S:Below w.heap.size w W0:=by rw[I];exact aB _ _
 have R:Hid (W0.heap[w.heap.size]? =some (.cells fW 30 (0,0))):=aA (by rw[I];exact aK _ _ _ rfl);have B:=aA (LU s W0 (hg.on S));rw[Tb] at E;unfold yU at B;have af:=aA S;have ab:=aA I;generalize jU s.data.toList=L at *;obtain⟨T,le,lp⟩:=L;dsimp only at B;have Q:=aA E;clear E S I hg;go_enter func22,ntmps22;go_upto_region 1 with (fail)
 rw[<-ab.o];go_wp2_with fail;refine B.o.mono ?_;rintro e w1 ⟨v,rfl,Y,F⟩;obtain⟨a,c,rfl,al⟩:=Y.slice;obtain⟨HV,HB1,C⟩:=aZ Y (aC af.o F) (aE R.o F);clear Y F B;obtain⟨⟨r0,r1,r2⟩,f0,f1,f2⟩:=cF C.o;have zr:=aD C.o;by_cases he:le=0
 .by_cases h2:T.length=2
  .subst he;have aj:=aA h2;have ah:0<T.length:=qo;obtain⟨b,off,r,rfl,ae,H,⟨rfl,W⟩,A⟩:=aH.at iC HV.o ah qe;obtain⟨t,X⟩:=xE (T[0]);rw[<-X] at W A;have ad:O=GI ([t,T[1]'(by omega)],0,lp):=by
    rw[Q.o]
    rcases T with _|⟨t1,_|⟨t2,_|⟨t3,T⟩⟩⟩
    .simp at h2
    .simp at h2
    .rw[X];rfl
    .simp at h2
   have n:=aA (show O=(if t.aDN=2 then some (2,t.num,t.str) else if t.aDN=3 then some (4,t.num,t.str) else if t.aDN=4 then some (5,t.num,t.str) else if t.aDN=5 then some (3,t.num,t.str) else if t.aDN=1 then (if t.str=str "true" then some (1,1,ByteArray.empty) else if t.str=str "false" then some (1,0,ByteArray.empty) else none) else none) from ad);have m:=aA W;have D:Hid (∀w2,Below w1.heap.size w1 w2->w2.cell? ⟨b,off,none⟩=some (.int .i64 t.aDN)/\w2.cell? ⟨b,off+2,none⟩=some (.int .i64 t.num)/\w2.cell? ⟨b,off+3,none⟩=some (.string t.str)/\b<w2.heap.size):=aA (fun w2 G=>by
    have o:=A 0 _ rfl;have q:=A 2 _ rfl;have x:=A 3 _ rfl;rw[Nat.zero_mul,Nat.add_zero] at o q x;exact⟨(G.cell (p:=⟨b,off,none⟩) H).trans o,(G.cell (p:=⟨b,off+2,none⟩) H).trans q,(G.cell (p:=⟨b,off+3,none⟩) H).trans x,lL H G.size⟩)
   have b1:((0:Int) != 0)=false:=rfl;have b2:((T.length:Int) != 2)=false:=by rw[h2];rfl
   have b3:((2:Int) != 2)=false:=rfl;have ak:¬(T.length=0):=qo;have an:(0:Int)<(T.length:Int):=qo;have ai:=aA (show b≠w.heap.size from fun e=>by have h5:W0.heap.size<=b:=ae;rw[ab.o] at h5;simp at h5;omega);clear A W X ad ae h2;go_upto_region 4 with (fail)
   obtain⟨d,ap,J,st⟩:=t;dsimp only at n D m;have V:Below w1.heap.size w1 w1.drew:=(Below.refl _ _).drew;have P:=aA V;obtain⟨o,q,x,M⟩:=D.o _ V;refine cD 10 [(0,false),(1,false),(2,false),(3,false),(4,false),(5,false),(6,false),(7,false),(8,false),(9,true)] [(10,true)] (fun w'=>Below w1.heap.size w1 w') (by kernel_rfl) (by kernel_rfl) P.o ?_;simp only[List.cons_append,List.nil_append]
   repeat (refine dG rfl (fun K U=> ?_);unfold rd;go_simp;refine U _ (fun ar h1=> ?_) ?_;(· clear U K o q x M;obtain⟨o,q,x,M⟩:=D.o _ h1;unfold rd;go_simp);clear U K)
   clear o q x M V;refine bJ rfl (fun K1 z=> ?_);unfold mv;go_simp;refine z _ (World.alloc _ (.cells fW 30)) (fun _=>aC P.o (aB _ _)) ?_;clear z K1;refine bJ rfl (fun K1 z=> ?_);unfold mv;refine lF rfl _ (.tmp 7) (.tmp 30) rfl w1.heap.size _ rfl rfl _ _ (aK _ _ _ rfl) (by kernel_rfl) rfl (by simp[Value.oneCell']) ?_;intro w2 aa ag;refine z _ _ (fun h=>absurd h qe) ?_;clear z K1;unfold cJ;have N:Hid (Below w1.heap.size w1 w2):=aA (((aJ (ok:=fun b=>b<w1.heap.size) (aC P.o (aB w1.drew (.cells fW 30)))).trans (ag.o.mono fun b _ F=>by show (_:Nat)≠_;omega)).below (fun k hk=>⟨hk,hk⟩));have HB2:=qB HB1 N.o;have Z:=qK C N.o;have y:Hid (¬w.heap.size=w1.heap.size/\¬w1.heap.size=w.heap.size/\w.heap.size<=w1.heap.size):=aA (by have:=aD C.o;exact⟨qo,qo,qo⟩);have ao:=y.o.1;have aq:=y.o.2.1;obtain⟨o,q,x,M⟩:=D.o _ N.o;clear r0 r1 r2 f0 f1 f2 zr;obtain⟨⟨r0,r1,r2⟩,f0,f1,f2⟩:=cF Z.o;have zr:=aD Z.o;obtain⟨⟨y0,y1,y2⟩,g0,g1,g2⟩:=cF aa.o;have zy:=aD aa.o;by_cases g:d=2
   .subst g;have HN:=aA (n.o.trans (iP rfl));go_wp2;refine bR (.tuple #[.agg #[.int .i64 2,.int .i64 J,.string st],.bool true]) ?_;exact tR HN.o ⟨⟨by show (-9223372036854775808:Int)<=2;omega,by show (2:Int)<=9223372036854775807;omega⟩,m.o.2.2.1,m.o.2.2.2⟩ ((((HB2.o.setCell y.o.2.2 _).setCell (lR _) _).setCell (lR _) _).setCell (lR _) _)
   .have c2:(d==2)=false:=bN.2 g;by_cases i:d=3
    .subst i;have HN:=aA (n.o.trans ((iN qe).trans (iP rfl)));go_wp2;refine bR (.tuple #[.agg #[.int .i64 4,.int .i64 J,.string st],.bool true]) ?_;exact tR HN.o ⟨⟨by show (-9223372036854775808:Int)<=4;omega,by show (4:Int)<=9223372036854775807;omega⟩,m.o.2.2.1,m.o.2.2.2⟩ ((((HB2.o.setCell y.o.2.2 _).setCell (lR _) _).setCell (lR _) _).setCell (lR _) _)
    .have c3:(d==3)=false:=bN.2 i;by_cases j:d=4
     .subst j;have HN:=aA (n.o.trans ((iN qe).trans ((iN qe).trans (iP rfl))));go_wp2;refine bR (.tuple #[.agg #[.int .i64 5,.int .i64 J,.string st],.bool true]) ?_;exact tR HN.o ⟨⟨by show (-9223372036854775808:Int)<=5;omega,by show (5:Int)<=9223372036854775807;omega⟩,m.o.2.2.1,m.o.2.2.2⟩ ((((HB2.o.setCell y.o.2.2 _).setCell (lR _) _).setCell (lR _) _).setCell (lR _) _)
     .have c4:(d==4)=false:=bN.2 j;by_cases l:d=5
      .subst l;have HN:=aA (n.o.trans ((iN qe).trans ((iN qe).trans ((iN qe).trans (iP rfl)))));go_wp2;refine bR (.tuple #[.agg #[.int .i64 3,.int .i64 J,.string st],.bool true]) ?_;exact tR HN.o ⟨⟨by show (-9223372036854775808:Int)<=3;omega,by show (3:Int)<=9223372036854775807;omega⟩,m.o.2.2.1,m.o.2.2.2⟩ ((((HB2.o.setCell y.o.2.2 _).setCell (lR _) _).setCell (lR _) _).setCell (lR _) _)
      .have c5:(d==5)=false:=bN.2 l;by_cases f:d=1
       .have c1:(d==1)=true:=bQ.2 f;by_cases t1:st=str "true"
        .have HN:=aA (n.o.trans ((iN g).trans ((iN i).trans ((iN j).trans ((iN l).trans ((iP f).trans (iP t1)))))));obtain⟨d1,e1⟩:=fY st [116,114,117,101] (t1.trans (by kernel_rfl));clear f g i j l t1;go_wp2;refine bR (.tuple #[.agg #[.int .i64 1,.int .i64 1,.string ⟨#[]⟩],.bool true]) ?_;exact tR (v:=(1,1,ByteArray.empty)) HN.o ⟨⟨qe,qe⟩,⟨qe,qe⟩,qe⟩ (((HB2.o.setCell (lR _) _).setCell (lR _) _).setCell (lR _) _)
        .obtain⟨d1,e1⟩:=fP st [116,114,117,101] (fun e=>t1 (e.trans (by kernel_rfl)));by_cases t2:st=str "false"
         .have HN:=aA (n.o.trans ((iN g).trans ((iN i).trans ((iN j).trans ((iN l).trans ((iP f).trans ((iN t1).trans (iP t2))))))));obtain⟨d2,e2⟩:=fY st [102,97,108,115,101] (t2.trans (by kernel_rfl));clear f g i j l t1 t2;go_wp2;refine bR (.tuple #[.agg #[.int .i64 1,.int .i64 0,.string ⟨#[]⟩],.bool true]) ?_;exact tR (v:=(1,0,ByteArray.empty)) HN.o ⟨⟨qe,qe⟩,⟨qe,qe⟩,qe⟩ (((HB2.o.setCell (lR _) _).setCell (lR _) _).setCell (lR _) _)
         .have HN:=aA (n.o.trans ((iN g).trans ((iN i).trans ((iN j).trans ((iN l).trans ((iP f).trans ((iN t1).trans (iN t2))))))));obtain⟨d2,e2⟩:=fP st [102,97,108,115,101] (fun e=>t2 (e.trans (by kernel_rfl)));clear f g i j l t1 t2;exact QBR
       .have c1:(d==1)=false:=bN.2 f;have HN:=aA (n.o.trans ((iN g).trans ((iN i).trans ((iN j).trans ((iN l).trans (iN f))))));clear f g i j l;exact QBR
  .have b1:(le != 0)=false:=by simpa using he
   have b2:((T.length:Int) != 2)=true:=by simp;omega
   have HN:=aA (Q.o.trans (Ya h2));clear he h2;exact QBS
 .have b1:(le != 0)=true:=by simpa using he
  have HN:=aA (Q.o.trans (Xz he));clear he;exact QBS
def BK(k:Int)(base:Op)(a:lU):Option Op:=
 if k=1 then some {base with aDU:=bs a}
 else if k=2\/k=6 then some {base with aDU:=bs (cO a).1,aD7:=bs (cO a).2}
 else if k=3 then (pC (cO (cO a).2).2).map (fun v=>{base with aDU:=bs (cO a).1,aD7:=bs (cO (cO a).2).1,val:=v})
 else if k=4 then some {base with aDU:=bs (cO a).1,to_:=bs (cO a).2}
 else if k=5\/k=8 then some {base with aEa:=jN a}
 else if k=7 then some {base with text:=bs a}
 else some base
def Vh(k:Int)(a reason:lU)(glass:Bool):Op:={UD with aDN:=k,aD3:=bs a,aEc:=bs reason,aEh:=glass}
def vT(o:Option Op):Option Op:=match o with
 |some o=>if gW o then some o else none
 |none=>none
theorem Co(l:lU):kQ l=vT (BK (oR (cO (kG (cO l).2).2.2).1) (Vh (oR (cO (kG (cO l).2).2.2).1) (cO l).1 (kG (cO l).2).2.1 (kG (cO l).2).1) (cO (kG (cO l).2).2.2).2):=by
 rfl
theorem sV(l:lU):(cO l).1.length<=l.length/\(cO l).2.length<=l.length:=by
 unfold cO;refine⟨(List.takeWhile_sublist _).length_le,?_⟩;rw[List.length_drop];have:=(List.dropWhile_sublist (fun c:UInt8=>decide (c.toNat≠32)) (l:=l)).length_le;omega
theorem Cp(l:lU):(kG l).2.1.length<=l.length/\(kG l).2.2.length<=l.length:=by
 unfold kG;split
 .rename_i r;have:=sV r;simp only[List.length_cons];omega
 .simp
theorem QBt{p:Prop}(h:p:=by
 obtain⟨⟨q0,q1,q2,q3,q4,q5,q6,q7,q8,q9,q10,q11⟩,-⟩:=bK HRE.o;refine bR (.tuple #[.agg #[.int .i64 0,.string ⟨#[]⟩,.string ⟨#[]⟩,.string ⟨#[]⟩,.string ⟨#[]⟩,.int .i64 0,.int .i64 0,.string ⟨#[]⟩,.int .i64 0,.string ⟨#[]⟩,.string ⟨#[]⟩,.bool false],.bool false]) ?_;exact Tc HN.o HBE.o):p:=h
theorem Ha(l:lU):0<=oR l/\oR l<=8:=by
 unfold oR;dsimp only;split
 .omega
 .decide
theorem XX(l:lU):0<=jN l/\jN l<=1000000000:=by
 by_cases h:l=[]\/9<l.length\/l.head?=some 48\/l.all bB=false
 .rw[sU h];decide
 .have h1:=(MY h).1;simp only[not_or] at h;obtain⟨_,h2,_,h4⟩:=h;have a:∀c∈l,bB c=true:=by simpa using h4
  have b:=OQ l 0 a;have hp:10 ^ l.length<=10 ^ 9:=Nat.pow_le_pow_right qe qo;have:qH l<(0+1) * 10 ^ l.length:=b;rw[h1];omega
theorem Am(l:lU):Lib.hasPrefix l [33]=true->∃r,l=33 ::r:=by
 unfold Lib.hasPrefix;intro h
 rcases l with _|⟨c,r⟩
 .simp[List.isPrefixOf] at h
 .simp[List.isPrefixOf] at h;exact⟨r,by rw[h]⟩
def ER(o:Option Op)(w:World)(e:Ending)(w':World):Prop:=(∀v,o=some v->iU v)/\e=.returned (.tuple #[eZ (o.getD UD),.bool o.isSome])/\Below w.heap.size w w'
theorem tS{k d:Int}{su a b e f c:bY}{v:V3}{g:Bool}(l:bL k)(n:su.size<=1000000)(i:a.size<=1000000)(j:b.size<=1000000)(o:e.size<=1000000)(p:cS v)(m:bL d)(q:f.size<=1000000)(he:c.size<=1000000):iU ⟨k,su,a,b,e,v,d,f,c,g⟩:=⟨l,n,i,j,o,p,m,q,he⟩
theorem Tc{o:Option Op}{w w':World}(h:o=none)(a:Below w.heap.size w w'):ER o w (.returned (.tuple #[.agg #[.int .i64 0,.string ⟨#[]⟩,.string ⟨#[]⟩,.string ⟨#[]⟩,.string ⟨#[]⟩,.int .i64 0,.int .i64 0,.string ⟨#[]⟩,.int .i64 0,.string ⟨#[]⟩,.string ⟨#[]⟩,.bool false],.bool false])) w':=by subst h;exact⟨fun v h=>(by cases h),rfl,a⟩
theorem Td{o:Option Op}{w w':World}{a:Op}(h:o=some a)(c:iU a)(b:Below w.heap.size w w'):ER o w (.returned (.tuple #[.agg #[.int .i64 a.aDN,.string a.aD3,.string a.aDU,.string a.aD7,.string a.to_,.int .i64 a.val.1,.int .i64 a.val.2.1,.string a.val.2.2,.int .i64 a.aEa,.string a.text,.string a.aEc,.bool a.aEh],.bool true])) w':=by
 subst h;exact⟨fun u h=>by injection h with h;rw[<-h];exact c,rfl,b⟩
abbrev MZ:Array Value:=#[.int .i64 0,.string ⟨#[]⟩,.string ⟨#[]⟩,.string ⟨#[]⟩,.string ⟨#[]⟩,.int .i64 0,.int .i64 0,.string ⟨#[]⟩,.int .i64 0,.string ⟨#[]⟩,.string ⟨#[]⟩,.bool false]
theorem RS(s:bY)(hs:s.size<=100000)(w:World)(hg:Gl w):Calls prog 9 #[.string s] w (ER (kQ s.data.toList) w):=by
 obtain⟨O,hO⟩:=xE (kQ s.data.toList);rw[<-hO];rw[Co] at hO;obtain⟨W0,aq⟩:=xE ((w.alloc (.cells MZ 32)).alloc (.cells MZ 32));have bk:Below w.heap.size w W0:=by rw[aq];exact aC (aB _ _) (aB _ _)
 have R:Hid (W0.heap[w.heap.size]? =some (.cells MZ 32 (0,0))):=aA (by rw[aq];exact aE (aK _ _ _ rfl) (aB _ _));have B:Hid (W0.heap[w.heap.size+1]? =some (.cells MZ 32 (0,0))):=aA (by rw[aq];exact aK _ _ _ qs);have cm:s.data.toList.length=s.size:=by rw[Array.length_toList];rfl
 have bm:=sV s.data.toList;have av:=aA (rI s hs W0 (hg.on bk));have aa:=aA (fun w' (N:Below w.heap.size w w')=>hg.on N);have cr:=aA bk;have cv:=aA aq;unfold sG at av;clear bk aq hg;generalize cO s.data.toList=c0 at *;obtain⟨su,U⟩:=c0;dsimp only at hO av bm;have aw:=aA (And.intro hs (And.intro cm bm));have Q:=aA hO;clear hs cm bm hO;go_enter func9,ntmps9;go_upto_region 1 with (fail)
 go_upto_region 2 with (fail)
 rw[<-cv.o];go_wp2_with fail;refine av.o.mono ?_;rintro e w1 ⟨rfl,ax⟩;replace B:=qK B ax;have bq:=qB cr ax;replace R:=qK R ax;clear ax av;obtain⟨⟨b0,b1,b2,F,G,b5,b6,b7,H,I,D,E⟩,i,j,o,p,q,t,x,y,z,A,l,m⟩:=bK B.o;have J:=aD B.o;go_upto_region 4 with (fail)
 generalize bo:w1.setCell _ _=w2;have B2:Hid (w2.heap[w.heap.size+1]? =some (.cells #[.int .i64 0,.string (bs su),.string ⟨#[]⟩,.string ⟨#[]⟩,.string ⟨#[]⟩,.int .i64 0,.int .i64 0,.string ⟨#[]⟩,.int .i64 0,.string ⟨#[]⟩,.string ⟨#[]⟩,.bool false] 32 (0,0))):=aA (by rw[<-bo];exact aG B.o 1 _);have bh:Hid (aN (fun b=>b≠w.heap.size+1) w1 w2):=aA (by rw[<-bo];exact aI _);have bd:Hid (Below w.heap.size w w2):=aA (((aJ (ok:=fun b=>b<w.heap.size) bq.o).trans (bh.o.mono fun b _ N=>by omega)).below (fun k P=>⟨P,P⟩));have T:¬w.heap.size=w.heap.size+1:=qo;have R2:=qS R bh.o T;clear b0 b1 b2 F G b5 b6 b7 H I D E i j o p q t x y z A l m J;clear bo B R bq bh;go_wp2_with fail;refine(strings_HasPrefix (bs U) ⟨#[33]⟩ w2).mono ?_;rintro e w3 ⟨rfl,ai⟩;rw[ai];clear ai w3;rw[show Lib.hasPrefix (bs U).data.toList (⟨#[33]⟩:bY).data.toList=Lib.hasPrefix U [33] from rfl];obtain⟨pb,bn⟩:=xE (Lib.hasPrefix U [33]);rw[<-bn];have cd:=aA bn;clear bn;obtain⟨⟨b0,b1,b2,F,G,b5,b6,b7,H,I,D,E⟩,i,j,o,p,q,t,x,y,z,A,l,m⟩:=bK B2.o;have J:=aD B2.o;go_upto_if 14 with (fail)
 go_cut [0] from 15 to 22 (fun v w'=>v=.string (bs (kG U).2.2)/\Hid (w'.heap[w.heap.size+1]? =some (.cells #[.int .i64 0,.string (bs su),.string ⟨#[]⟩,.string ⟨#[]⟩,.string ⟨#[]⟩,.int .i64 0,.int .i64 0,.string ⟨#[]⟩,.int .i64 0,.string ⟨#[]⟩,.string (bs (kG U).2.1),.bool (kG U).1] 32 (0,0)))/\Hid (w'.heap[w.heap.size]? =some (.cells MZ 32 (0,0)))/\Hid (Below w.heap.size w w'))
 case first=>
  cases pb
  .have hh:kG U=(false,[],U):=by
    have hp:=cd.o;unfold kG;split
    .rename_i r;simp[Lib.hasPrefix,List.isPrefixOf] at hp
    .rfl
   have HH:=aA hh;clear hh;go_wp2
   all_goals go_meet
   all_goals (rw[HH.o];exact⟨rfl,B2,R2,bd⟩)
  .obtain⟨r,rfl⟩:=Am U cd.o.symm;have bj:=aA (fun w' (N:Below w.heap.size w w')=>rI (bs r) (by have:=aw.o;simp only[List.length_cons] at this;rw[cH];omega) w' (aa.o w' N));unfold sG at bj;rw[mW] at bj;have cy:1<=(bs (33 ::r)).size:=by rw[cH];simp
   have c7:(1:Int)<=((bs (33 ::r)).size:Int):=qo;have c8:(bs (33 ::r)).extract 1 (bs (33 ::r)).size=bs r:=by
    rw[<-GH ((bs (33 ::r)).extract 1 (bs (33 ::r)).size),yR _ 1 cy];rfl
   go_upto_region 6 with (fail)
   generalize ai:w2.setCell _ _=w3;have B3:Hid (w3.heap[w.heap.size+1]? =some (.cells #[.int .i64 0,.string (bs su),.string ⟨#[]⟩,.string ⟨#[]⟩,.string ⟨#[]⟩,.int .i64 0,.int .i64 0,.string ⟨#[]⟩,.int .i64 0,.string ⟨#[]⟩,.string ⟨#[]⟩,.bool true] 32 (0,0))):=aA (by rw[<-ai];exact aG B2.o 11 _);have cg:Hid (aN (fun b=>b≠w.heap.size+1) w2 w3):=aA (by rw[<-ai];exact aI _);have br:Hid (Below w.heap.size w w3):=aA (((aJ (ok:=fun b=>b<w.heap.size) bd.o).trans (cg.o.mono fun b _ N=>by omega)).below (fun k P=>⟨P,P⟩));have R3:=qS R2 cg.o T;clear ai;clear b0 b1 b2 F G b5 b6 b7 H I D E i j o p q t x y z A l m J;go_wp2_with fail;refine(bj.o w3 br.o).mono ?_;rintro e w4 ⟨rfl,ay⟩;obtain⟨B4,R4,ct⟩:=aZ (aE B3.o ay) (aE R3.o ay) (aC br.o ay);clear ay;obtain⟨⟨b0,b1,b2,F,G,b5,b6,b7,H,I,D,E⟩,i,j,o,p,q,t,x,y,z,A,l,m⟩:=bK B4.o;have J:=aD B4.o;go_wp2
   all_goals go_meet
   all_goals exact⟨rfl,aA (aG B4.o 10 _),aA (aF R4.o (aI _) T),aA (ct.o.setCell (Nat.le_succ _) _)⟩
 case rest=>
 obtain⟨hv,B5,R5,be⟩:=hcut;subst hv;have cl:=Cp U;generalize kG U=hd at *;obtain⟨M,K,r1⟩:=hd;dsimp only at cl B5 Q;have ch:=sV r1;have ak:=aA (fun w' (N:Below w.heap.size w w')=>rI (bs r1) (by have:=aw.o;rw[cH];omega) w' (aa.o w' N));unfold sG at ak;rw[mW] at ak;generalize cO r1=c1 at *;obtain⟨wd,d⟩:=c1;dsimp only at ak Q ch;have bz:Hid (su.length<=100000/\K.length<=100000/\d.length<=100000):=aA (qA aw.o);have cz:=Ha wd;have HK:=aA (fun w'=>Sz (bs wd) w');rw[mW] at HK;unfold aP at HK;generalize oR wd=k at *;clear cl ch aw R2 bd B2;go_wp2_with fail;refine(ak.o wc be.o).mono ?_;rintro e w6 ⟨rfl,az⟩;obtain⟨B6,R6,bt⟩:=aZ (aE B5.o az) (aE R5.o az) (aC be.o az);clear az B5 R5 be ak;go_wp2_with fail;refine(HK.o w6).mono ?_;rintro e w7 ⟨rfl,a1⟩;obtain⟨B7,R7,bu⟩:=aZ (aE B6.o a1) (aE R6.o a1) (aC bt.o a1);clear a1 B6 R6 bt HK;obtain⟨⟨b0,b1,b2,F,G,b5,b6,b7,H,I,D,E⟩,i,j,o,p,q,t,x,y,z,A,l,m⟩:=bK B7.o;have J:=aD B7.o;go_upto_region 9 with (fail)
 generalize a8:w7.setCell _ _=w8;have Z:Hid (w8.heap[w.heap.size+1]? =some (.cells #[.int .i64 k,.string (bs su),.string ⟨#[]⟩,.string ⟨#[]⟩,.string ⟨#[]⟩,.int .i64 0,.int .i64 0,.string ⟨#[]⟩,.int .i64 0,.string ⟨#[]⟩,.string (bs K),.bool M] 32 (0,0))):=aA (by rw[<-a8];exact aG B7.o 0 _);have R8:=aA (show w8.heap[w.heap.size]? =some (.cells MZ 32 (0,0)) from by rw[<-a8];exact aF R7.o (aI _) T);have V:=aA (show Below w.heap.size w w8 from by rw[<-a8];exact bu.o.setCell (Nat.le_succ _) _);clear b0 b1 b2 F G b5 b6 b7 H I D E i j o p q t x y z A l m J;clear a8 B7 R7 bu;obtain⟨⟨b0,b1,b2,F,G,b5,b6,b7,H,I,D,E⟩,i,j,o,p,q,t,x,y,z,A,l,m⟩:=bK Z.o;have J:=aD Z.o;go_upto_region 10 with (fail)
 rename_i K1 bl K2 cw;have HJ:∀(a:Act) (w':World) (g:Op) (au:Bool),a={tmps:=#[gT a 0,gT a 1,.pointer (some ⟨w.heap.size,0,none⟩),gT a 3,.pointer (some ⟨w.heap.size+1,0,none⟩),gT a 5,.bool au,gT a 7,gT a 8,gT a 9,gT a 10,gT a 11,gT a 12,gT a 13,gT a 14,gT a 15,gT a 16,gT a 17,gT a 18,gT a 19,gT a 20,gT a 21,gT a 22,gT a 23,gT a 24,gT a 25,gT a 26,gT a 27,gT a 28,gT a 29,gT a 30,gT a 31,gT a 32,gT a 33,gT a 34,gT a 35,gT a 36,gT a 37,gT a 38,gT a 39,gT a 40,gT a 41,gT a 42,gT a 43,gT a 44,gT a 45,gT a 46,gT a 47,gT a 48,gT a 49,gT a 50,gT a 51,gT a 52,gT a 53,gT a 54,gT a 55,gT a 56,gT a 57,gT a 58,gT a 59,gT a 60,gT a 61,gT a 62,gT a 63,gT a 64,gT a 65,gT a 66,gT a 67,gT a 68,gT a 69,gT a 70,gT a 71,gT a 72,gT a 73,gT a 74,gT a 75,gT a 76,gT a 77,gT a 78,gT a 79,gT a 80,gT a 81,gT a 82,gT a 83,gT a 84,gT a 85,gT a 86,gT a 87,gT a 88,gT a 89,gT a 90,gT a 91,gT a 92,gT a 93,gT a 94],defers:=[]}->Hid (w'.heap[w.heap.size+1]? =some (.cells (rS g) 32 (0,0)))->Hid (w'.heap[w.heap.size]? =some (.cells MZ 32 (0,0)))->Hid (Below w.heap.size w w')->Hid (O=vT (if au=true then some g else none))->Hid (iU g)->K1 a w':=by
  intro a w' g au ha HO HR bp cc bx;obtain⟨u,hu⟩:∃u:Nat->Value,a={tmps:=#[u 0,u 1,.pointer (some ⟨w.heap.size,0,none⟩),u 3,.pointer (some ⟨w.heap.size+1,0,none⟩),u 5,.bool au,u 7,u 8,u 9,u 10,u 11,u 12,u 13,u 14,u 15,u 16,u 17,u 18,u 19,u 20,u 21,u 22,u 23,u 24,u 25,u 26,u 27,u 28,u 29,u 30,u 31,u 32,u 33,u 34,u 35,u 36,u 37,u 38,u 39,u 40,u 41,u 42,u 43,u 44,u 45,u 46,u 47,u 48,u 49,u 50,u 51,u 52,u 53,u 54,u 55,u 56,u 57,u 58,u 59,u 60,u 61,u 62,u 63,u 64,u 65,u 66,u 67,u 68,u 69,u 70,u 71,u 72,u 73,u 74,u 75,u 76,u 77,u 78,u 79,u 80,u 81,u 82,u 83,u 84,u 85,u 86,u 87,u 88,u 89,u 90,u 91,u 92,u 93,u 94],defers:=[]}:=⟨fun n=>a.tmps.getD n undef,ha⟩;subst hu;clear ha;refine bl _ _ ?_;clear bl cw b0 b1 b2 F G b5 b6 b7 H I D E i j o p q t x y z A l m J;obtain⟨⟨o0,o1,o2,o3,o4,o5,o6,o7,o8,o9,cp,cq⟩,-⟩:=bK HO.o;have zo:=aD HO.o
  cases au
  .have HN:Hid (O=none):=aA cc.o;go_upto_region 27 with (fail)
   go_wp2_with (refine eG rfl _ (.tmp 2) (.tmp 93) rfl w.heap.size _ rfl rfl _ _ HR.o (by kernel_rfl) rfl (by simp[Value.oneCell']) ?_;intro wE HRE ao)
   have HBE:=aA (((aJ (ok:=fun b=>b<w.heap.size) bp.o).trans (ao.o.mono fun b _ N=>by show (_:Nat)≠_;omega)).below (B:=w.heap.size) (fun k P=>⟨P,P⟩));exact QBt
  .have af:=VN g bx.o w';unfold eZ bX aP at af;have af:=aA af;have cb:Hid (O=if gW g=true then some g else none):=aA cc.o;go_upto_if 92 with (go_at_call 24;refine af.o.mono ?_;rintro e w9 ⟨rfl,c⟩)
   obtain⟨ca,cf,W⟩:=aZ (aE HO.o c) (aE HR.o c) (aC bp.o c);clear c o0 o1 o2 o3 o4 o5 o6 o7 o8 o9 cp cq zo;obtain⟨⟨o0,o1,o2,o3,o4,o5,o6,o7,o8,o9,cp,cq⟩,-⟩:=bK ca.o;have zo:=aD ca.o
   cases hf:gW g
   .have HN:Hid (O=none):=aA (by have h:=cb.o;rw[hf] at h;exact h);clear hf;go_upto_region 27 with (fail)
    go_wp2_with (refine eG rfl _ (.tmp 2) (.tmp 93) rfl w.heap.size _ rfl rfl _ _ cf.o (by kernel_rfl) rfl (by simp[Value.oneCell']) ?_;intro wE HRE ao)
    have HBE:=aA (((aJ (ok:=fun b=>b<w.heap.size) W.o).trans (ao.o.mono fun b _ N=>by show (_:Nat)≠_;omega)).below (B:=w.heap.size) (fun k P=>⟨P,P⟩));exact QBt
   .have HN:Hid (O=some g):=aA (by have h:=cb.o;rw[hf] at h;exact h);clear hf;go_upto_region 28 with (fail)
    go_wp2_with (refine eG rfl _ (.tmp 2) (.tmp 94) rfl w.heap.size _ rfl rfl _ _ cf.o (by kernel_rfl) rfl (by simp[Value.oneCell']) ?_;intro wE HRE ao)
    have HBE:=aA (((aJ (ok:=fun b=>b<w.heap.size) W.o).trans (ao.o.mono fun b _ N=>by show (_:Nat)≠_;omega)).below (B:=w.heap.size) (fun k P=>⟨P,P⟩));obtain⟨⟨q0,q1,q2,q3,q4,q5,q6,q7,q8,q9,q10,q11⟩,-⟩:=bK HRE.o;refine bR (.tuple #[.agg #[.int .i64 g.aDN,.string g.aD3,.string g.aDU,.string g.aD7,.string g.to_,.int .i64 g.val.1,.int .i64 g.val.2.1,.string g.val.2.2,.int .i64 g.aEa,.string g.text,.string g.aEc,.bool g.aEh],.bool true]) ?_;exact Td HN.o bx.o HBE.o
 clear bl;have C:(ByteArray.empty).size<=1000000:=qe;have ad:cS aY:=⟨⟨qe,qe⟩,⟨qe,qe⟩,qe⟩;have ah:bL 0:=⟨qe,qe⟩;have cn:(bs d).size<=1000000:=by have:=bz.o;rw[cH];omega
 have c6:=bz.o;by_cases k1:k=1
 .subst k1;go_wp2;exact HJ _ _ (⟨1,bs su,bs d,ByteArray.empty,ByteArray.empty,aY,0,ByteArray.empty,bs K,M⟩:Op) true rfl (aA (aG Z.o 2 _)) (aA (aF R8.o (aI _) T)) (aA (V.o.setCell (Nat.le_succ _) _)) (aA Q.o) (aA (tS ⟨qe,qe⟩ (by rw[cH];omega) cn C C ad ah C (by rw[cH];omega)))
 have d1:(k==1)=false:=bN.2 k1;by_cases aj:k=2\/k=6
 .have ab:=sV d;have f:=rI (bs d) (by rw[cH];omega) w8 (aa.o _ V.o);unfold sG at f;rw[mW] at f;have S:Hid (O=vT (some (⟨k,bs su,bs (cO d).1,bs (cO d).2,ByteArray.empty,aY,0,ByteArray.empty,bs K,M⟩:Op))):=aA (by have h:=Q.o;unfold BK at h;rw[iN k1,iP aj] at h;exact h);generalize cO d=c2 at *;obtain⟨X,Y⟩:=c2;dsimp only at f S ab;have f:=aA f;have HX:Hid ((bs X).size<=1000000/\(bs Y).size<=1000000):=aA (by rw[cH,cH];omega);have ag:Hid (bL k):=aA ⟨qo,qo⟩;clear ab Q
  rcases aj with rfl|rfl
  all_goals
   go_wp2_with fail;refine f.o.mono ?_;rintro e w9 ⟨rfl,c⟩;obtain⟨L,R9,W⟩:=aZ (aE Z.o c) (aE R8.o c) (aC V.o c);clear c b0 b1 b2 F G b5 b6 b7 H I D E i j o p q t x y z A l m J;obtain⟨⟨b0,b1,b2,F,G,b5,b6,b7,H,I,D,E⟩,i,j,o,p,q,t,x,y,z,A,l,m⟩:=bK L.o;have J:=aD L.o;go_wp2;exact HJ _ _ (⟨_,bs su,bs X,bs Y,ByteArray.empty,aY,0,ByteArray.empty,bs K,M⟩:Op) true rfl (aA (aG (aG L.o 2 _) 3 _)) (aA (aF R9.o ((aI _).trans (aI _)) T)) (aA ((W.o.setCell (Nat.le_succ _) _).setCell (Nat.le_succ _) _)) (aA S.o) (aA (tS ag.o (by rw[cH];omega) HX.o.1 HX.o.2 C ad ah C (by rw[cH];omega)))
 have d2:(k==2)=false:=bN.2 (fun e=>aj (.inl e));have d6:(k==6)=false:=bN.2 (fun e=>aj (.inr e));by_cases k3:k=3
 .subst k3;have ab:=sV d;have f:=rI (bs d) (by rw[cH];omega) w8 (aa.o _ V.o);unfold sG at f;rw[mW] at f;have S:Hid (O=vT ((pC (cO (cO d).2).2).map (fun v=>(⟨3,bs su,bs (cO d).1,bs (cO (cO d).2).1,ByteArray.empty,v,0,ByteArray.empty,bs K,M⟩:Op)))):=aA Q.o;generalize cO d=c2 at *;obtain⟨X,r3⟩:=c2;dsimp only at f S ab;have cj:=sV r3;have ae:=fun w' (N:Below w.heap.size w w')=>rI (bs r3) (by rw[cH];omega) w' (aa.o _ N)
  unfold sG at ae;rw[mW] at ae;generalize cO r3=c3 at *;obtain⟨Y,r4⟩:=c3;dsimp only at ae S cj;have al:=fun w' (N:Below w.heap.size w w')=>Al (bs r4) w' (aa.o _ N).aEI
  rw[mW] at al;generalize pC r4=lo at *;obtain⟨f,ae,al⟩:=aZ f ae al;have HX:Hid ((bs X).size<=1000000/\(bs Y).size<=1000000):=aA (by rw[cH,cH];omega);clear ab cj Q;go_wp2_with fail;refine f.o.mono ?_;rintro e w9 ⟨rfl,c⟩;obtain⟨L,R9,W⟩:=aZ (aE Z.o c) (aE R8.o c) (aC V.o c);clear c f b0 b1 b2 F G b5 b6 b7 H I D E i j o p q t x y z A l m J;obtain⟨⟨b0,b1,b2,F,G,b5,b6,b7,H,I,D,E⟩,i,j,o,p,q,t,x,y,z,A,l,m⟩:=bK L.o;have J:=aD L.o;go_upto_region 17 with (fail)
  generalize ba:w9.setCell _ _=wa;have BA:Hid (wa.heap[w.heap.size+1]? =some (.cells #[.int .i64 3,.string (bs su),.string (bs X),.string ⟨#[]⟩,.string ⟨#[]⟩,.int .i64 0,.int .i64 0,.string ⟨#[]⟩,.int .i64 0,.string ⟨#[]⟩,.string (bs K),.bool M] 32 (0,0))):=aA (by rw[<-ba];exact aG L.o 2 _);have RA:=aA (show wa.heap[w.heap.size]? =some (.cells MZ 32 (0,0)) from by rw[<-ba];exact aF R9.o (aI _) T);have bf:=aA (show Below w.heap.size w wa from by rw[<-ba];exact W.o.setCell (Nat.le_succ _) _);clear ba b0 b1 b2 F G b5 b6 b7 H I D E i j o p q t x y z A l m J;go_wp2_with fail;refine(ae.o wa bf.o).mono ?_;rintro e wb ⟨rfl,a6⟩;obtain⟨BB,RB,bw⟩:=aZ (aE BA.o a6) (aE RA.o a6) (aC bf.o a6);clear a6 ae BA RA bf L R9 W;obtain⟨⟨b0,b1,b2,F,G,b5,b6,b7,H,I,D,E⟩,i,j,o,p,q,t,x,y,z,A,l,m⟩:=bK BB.o;have J:=aD BB.o;go_upto_region 18 with (fail)
  generalize bb:wb.setCell _ _=bc;have BD:Hid (bc.heap[w.heap.size+1]? =some (.cells #[.int .i64 3,.string (bs su),.string (bs X),.string (bs Y),.string ⟨#[]⟩,.int .i64 0,.int .i64 0,.string ⟨#[]⟩,.int .i64 0,.string ⟨#[]⟩,.string (bs K),.bool M] 32 (0,0))):=aA (by rw[<-bb];exact aG BB.o 3 _);have RD:=aA (show bc.heap[w.heap.size]? =some (.cells MZ 32 (0,0)) from by rw[<-bb];exact aF RB.o (aI _) T);have bg:=aA (show Below w.heap.size w bc from by rw[<-bb];exact bw.o.setCell (Nat.le_succ _) _);clear bb b0 b1 b2 F G b5 b6 b7 H I D E i j o p q t x y z A l m J BB RB bw;go_wp2_with fail;refine(al.o bc bg.o).mono ?_;rintro e we ⟨ck,rfl,a7⟩;obtain⟨BE,RE,HBE⟩:=aZ (aE BD.o a7) (aE RD.o a7) (aC bg.o a7);have af:Hid (O=vT (if lo.isSome=true then some (⟨3,bs su,bs X,bs Y,ByteArray.empty,(lo.getD aY),0,ByteArray.empty,bs K,M⟩:Op) else none)):=aA (by
   rw[S.o]
   cases lo
   .rfl
   .rfl)
  have cu:Hid (cS (lo.getD aY)):=aA (by
   cases lo
   .exact ad
   .exact ck _ rfl)
  generalize lo.getD aY=lv at *;generalize lo.isSome=ls at *;unfold dC;clear a7 al BD RD bg ck;obtain⟨⟨b0,b1,b2,F,G,b5,b6,b7,H,I,D,E⟩,i,j,o,p,q,t,x,y,z,A,l,m⟩:=bK BE.o;have J:=aD BE.o;go_wp2;exact HJ _ _ (⟨3,bs su,bs X,bs Y,ByteArray.empty,lv,0,ByteArray.empty,bs K,M⟩:Op) ls rfl (aA (aG (aG (aG BE.o 5 _) 6 _) 7 _)) (aA (aF RE.o (((aI _).trans (aI _)).trans (aI _)) T)) (aA (((HBE.o.setCell (Nat.le_succ _) _).setCell (Nat.le_succ _) _).setCell (Nat.le_succ _) _)) af (aA (tS ⟨qe,qe⟩ (by rw[cH];omega) HX.o.1 HX.o.2 C cu.o ah C (by rw[cH];omega)))
 have d3:(k==3)=false:=bN.2 k3;by_cases k4:k=4
 .have ab:=sV d;have f:=rI (bs d) (by rw[cH];omega) w8 (aa.o _ V.o);unfold sG at f;rw[mW] at f;subst k4;have S:Hid (O=vT (some (⟨4,bs su,bs (cO d).1,ByteArray.empty,bs (cO d).2,aY,0,ByteArray.empty,bs K,M⟩:Op))):=aA Q.o;generalize cO d=c2 at *;obtain⟨X,Y⟩:=c2;dsimp only at f S ab;have f:=aA f;have HX:Hid ((bs X).size<=1000000/\(bs Y).size<=1000000):=aA (by rw[cH,cH];omega);clear ab Q;go_wp2_with fail;refine f.o.mono ?_;rintro e w9 ⟨rfl,c⟩;obtain⟨L,R9,W⟩:=aZ (aE Z.o c) (aE R8.o c) (aC V.o c);clear c b0 b1 b2 F G b5 b6 b7 H I D E i j o p q t x y z A l m J;obtain⟨⟨b0,b1,b2,F,G,b5,b6,b7,H,I,D,E⟩,i,j,o,p,q,t,x,y,z,A,l,m⟩:=bK L.o;have J:=aD L.o;go_wp2;exact HJ _ _ (⟨4,bs su,bs X,ByteArray.empty,bs Y,aY,0,ByteArray.empty,bs K,M⟩:Op) true rfl (aA (aG (aG L.o 2 _) 4 _)) (aA (aF R9.o ((aI _).trans (aI _)) T)) (aA ((W.o.setCell (Nat.le_succ _) _).setCell (Nat.le_succ _) _)) (aA S.o) (aA (tS ⟨qe,qe⟩ (by rw[cH];omega) HX.o.1 C HX.o.2 ad ah C (by rw[cH];omega)))
 have d4:(k==4)=false:=bN.2 k4;by_cases ar:k=5\/k=8
 .have an:=Gz (bs d) (by rw[cH];omega) w8 (aa.o _ V.o).aEI;unfold aP at an;rw[mW] at an;have cx:=XX d;have S:Hid (O=vT (some (⟨k,bs su,ByteArray.empty,ByteArray.empty,ByteArray.empty,aY,jN d,ByteArray.empty,bs K,M⟩:Op))):=aA (by have h:=Q.o;unfold BK at h;rw[iN k1,iN aj,iN k3,iN k4,iP ar] at h;exact h);generalize jN d=nv at *;have an:=aA an;have ag:Hid (bL k/\bL nv):=aA ⟨⟨qo,qo⟩,⟨qo,qo⟩⟩;clear cx Q
  rcases ar with rfl|rfl
  all_goals
   go_wp2_with fail;refine an.o.mono ?_;rintro e w9 ⟨rfl,c⟩;obtain⟨L,R9,W⟩:=aZ (aE Z.o c) (aE R8.o c) (aC V.o c);clear c b0 b1 b2 F G b5 b6 b7 H I D E i j o p q t x y z A l m J;obtain⟨⟨b0,b1,b2,F,G,b5,b6,b7,H,I,D,E⟩,i,j,o,p,q,t,x,y,z,A,l,m⟩:=bK L.o;have J:=aD L.o;go_wp2;exact HJ _ _ (⟨_,bs su,ByteArray.empty,ByteArray.empty,ByteArray.empty,aY,nv,ByteArray.empty,bs K,M⟩:Op) true rfl (aA (aG L.o 8 _)) (aA (aF R9.o (aI _) T)) (aA (W.o.setCell (Nat.le_succ _) _)) (aA S.o) (aA (tS ag.o.1 (by rw[cH];omega) C C C ad ag.o.2 C (by rw[cH];omega)))
 have d5:(k==5)=false:=bN.2 (fun e=>ar (.inl e));have d8:(k==8)=false:=bN.2 (fun e=>ar (.inr e));by_cases k7:k=7
 .subst k7;go_wp2;exact HJ _ _ (⟨7,bs su,ByteArray.empty,ByteArray.empty,ByteArray.empty,aY,0,bs d,bs K,M⟩:Op) true rfl (aA (aG Z.o 9 _)) (aA (aF R8.o (aI _) T)) (aA (V.o.setCell (Nat.le_succ _) _)) (aA Q.o) (aA (tS ⟨qe,qe⟩ (by rw[cH];omega) C C C ad ah cn (by rw[cH];omega)))
 have d7:(k==7)=false:=bN.2 k7;have S:Hid (O=vT (some (⟨k,bs su,ByteArray.empty,ByteArray.empty,ByteArray.empty,aY,0,ByteArray.empty,bs K,M⟩:Op))):=aA (by have h:=Q.o;unfold BK at h;rw[iN k1,iN aj,iN k3,iN k4,iN ar,iN k7] at h;exact h);have ag:Hid (bL k):=aA ⟨qo,qo⟩;go_wp2;exact HJ _ _ (⟨k,bs su,ByteArray.empty,ByteArray.empty,ByteArray.empty,aY,0,ByteArray.empty,bs K,M⟩:Op) true rfl Z R8 V (aA S.o) (aA (tS ag.o (by rw[cH];omega) C C C ad ah C (by rw[cH];omega)))
end Go.Proofs.YthcgdgkpgdjahaaGreatDoor
