/- Lemmas. -/
import Derived.Test.YtgoanbpcdhmfkaaGreatDoorMaq
namespace Go.Proofs.YtgoanbpcdhmfkaaGreatDoor
open Go.RowKit
set_option linter.unusedVariables false
set_option linter.unusedSimpArgs false
set_option maxHeartbeats 16000000
open _root_.Go.Proofs.Tryz
set_option maxRecDepth 20000
theorem Dx{ok:nP}(v:Value)(l:List V3)(x:V3)(w:World)(h:aH VR w ok v l):Calls prog 295 #[v,.agg #[.int .i64 x.1,.int .i64 x.2.1,.string x.2.2]] w (aP (.int .i64 (eU (fun y=>decide (x=y)) l)) w):=by
 obtain⟨a,c,rfl,F⟩:=h.slice;have HB0:=aA (aB w (.cells #[.int .i64 x.1,.int .i64 x.2.1,.string x.2.2] 44));have j:=aA (aK w (.cells #[.int .i64 x.1,.int .i64 x.2.1,.string x.2.2] 44) _ rfl);have n:=aA (h.on bG HB0.o);obtain⟨w1,f⟩:=xE (w.alloc (.cells #[.int .i64 x.1,.int .i64 x.2.1,.string x.2.2] 44));rw[<-f] at n HB0 j;have z:=aA f;clear h f;obtain⟨d,e⟩:∃d:V3->Bool,d=(fun y=>decide (x=y)):=⟨_,rfl⟩;have t:=aA e;rw[<-e];clear e;unfold aP;go_enter func295,ntmps295;go_wp2;rw[<-z.o];go_loopw [5,8] (fun _ i wr=>∃k:Nat,k<=l.length/\i=.int .i64 k/\Hid (∀i (hi:i<l.length),i<k->d l[i]=false)/\Hid (Below w1.heap.size w1 wr)) (fun _ i _=>l.length - (intOf i).toNat)
 case atStart=>exact BC
 case round=>
  obtain⟨k,E,rfl,HR,HB⟩:=hrel;by_cases q:k<l.length
  .have hk1:(k:Int)<(l.length:Int):=qo;obtain⟨b,off,r,rfl,_,D,⟨rfl,A⟩,o⟩:=aH.at bG (n.o.on bG HB.o) q qe;obtain⟨C,G,H⟩:=cR3 o;rw[Nat.add_zero] at C;have m:=qK j HB.o;obtain⟨⟨I,J,K⟩,_⟩:=cD m.o;have L:=aD m.o;have p:=EU x l[k];have HL:Hid (∀g,d l[k]=g->((if g=true then eU d l=(k:Int) else ∀i (hi:i<l.length),i<k+1->d l[i]=false):Prop)):=aA (fun g hg=>by
    cases g
    .exact Wr
    .rw[iP rfl];exact IM q HR.o hg)
   have s:d l[k]=decide (x=l[k]):=by rw[t.o]
   rw[<-s] at p;clear HR o A s;generalize B:l[k]=y at *;generalize d y=g at *;clear B;go_wp2;go_quiet (fail)
   have HB':=aA (fI HB.o ⟨nq,rfl⟩);clear p
   cases g
   .exact Ws
   .exact QCd
  .exact QBK
theorem QV{ok:nP}(v:Value)(l:List V3)(x:V3)(w:World)(h:aH VR w ok v l):Calls prog 287 #[v,.agg #[.int .i64 x.1,.int .i64 x.2.1,.string x.2.2]] w (aP (.bool (l.any (fun y=>decide (x=y)))) w):=by
 have HB0:=aA (aB w (.cells #[.int .i64 x.1,.int .i64 x.2.1,.string x.2.2] 44));have HI:=aA (Dx v l x _ (h.on bG HB0.o));have HA:=aA (sW (fun y=>decide (x=y)) l);obtain⟨a,c,rfl,b⟩:=h.slice;unfold aP at *;generalize eU (fun y=>decide (x=y)) l=n at *;clear h;go_enter func287,ntmps287;exact QCf
theorem Vf{ok:nP}(v:Value)(l:List V3)(x:V3)(w:World)(h:aH VR w ok v l):Calls prog 284 #[v,dB x] w (aP (.bool (l.any (fun y=>decide (y=x)))) w):=by
 have HB0:=aA (aB w (.cells #[.int .i64 x.1,.int .i64 x.2.1,.string x.2.2] 44));have HI:=aA (QV v l x _ (h.on bG HB0.o));have e:l.any (fun y=>decide (y=x))=l.any (fun y=>decide (x=y)):=by congr 1;funext y;rw[Bool.eq_iff_iff];simp[eq_comm]
 rw[e];obtain⟨a,c,rfl,b⟩:=h.slice;unfold aP dB at *;generalize l.any (fun y=>decide (x=y))=n at *;clear h e;go_enter func284,ntmps284;go_wp2_with fail;exact Rr
theorem tB(f:oD)(i g:Nat)(l:List V3)(v:V3)(e m:Int)(w:World):Calls prog 250 #[.agg #[.slice f i g,.int .i64 v.1,.int .i64 v.2.1,.string v.2.2,.int .i64 e],.int .i64 m] w (aP (.bool (It.is ⟨l,v,e⟩ m)) w):=by
 obtain⟨t,a⟩:∃t:Bool,decide (v=(1,m,ByteArray.empty))=t:=⟨_,rfl⟩;have j:∀w,Sem.run prog (binOp .eql 44 (.agg #[.int .i64 v.1,.int .i64 v.2.1,.string v.2.2]) (.agg #[.int .i64 1,.int .i64 m,.string ⟨#[]⟩])) w=.ok (.bool t) w:=by rw[<-a];exact EU v (1,m,ByteArray.empty)
 have c:Hid (It.is ⟨l,v,e⟩ m=(decide (e=0)&&t)):=aA (by unfold It.is;rw[<-a]);have b:=aA (fun o:Obj=>aB w o);unfold aP;rw[c.o];clear a c;by_cases he:e=0
 .have d:(e==0)=true:=bQ.2 he;rw[dX he,Bool.true_and];clear he;go_enter func250,ntmps250;go_wp2;go_returns;exact⟨rfl,b.o _⟩
 .have d:(e==0)=false:=bN.2 he;rw[dF he,Bool.false_and];clear he;go_enter func250,ntmps250;go_wp2;go_returns;exact⟨rfl,b.o _⟩
theorem GJ(b:Bool)(n:Int)(a:(if b=true then (1:Int) else 0)=n)(w:World):Calls prog 283 #[.bool b] w (aP (.agg #[.slice none 0 0,.int .i64 1,.int .i64 n,.string ByteArray.empty,.int .i64 0]) w):=by
 have c:=aA (fun d e:Obj=>aC (aB w d) (aB _ e));unfold aP
 cases b
 .obtain rfl:n=0:=by rw[<-a];rfl
  clear a;go_enter func283,ntmps283;go_wp2;refine bR (.agg #[.slice none 0 0,.int .i64 1,.int .i64 0,.string ⟨#[]⟩,.int .i64 0]) ?_;exact⟨rfl,c.o _ _⟩
 .obtain rfl:n=1:=by rw[<-a];rfl
  clear a;go_enter func283,ntmps283;go_wp2;refine bR (.agg #[.slice none 0 0,.int .i64 1,.int .i64 1,.string ⟨#[]⟩,.int .i64 0]) ?_;exact⟨rfl,c.o _ _⟩
theorem Jm(op:Int)(w:World):Calls prog 269 #[.int .i64 op] w (fun e w'=>e=.returned (.int .i64 (jJ op))/\w=w'):=by
 obtain⟨n,a⟩:∃n:Nat,jJ op=n:=⟨_,rfl⟩;rw[a];have b:=aA a;clear a;go_enter func269,ntmps269;go_wp2
 all_goals go_returns
 all_goals
  refine⟨?_,rfl⟩;rw[<-b.o];clear b;unfold jJ
  simp_all
def vD(op:Int):List V3->V3×Int
 | [a]=>nT op a
 | [a,b]=>dI op a b
 |_=>(bD,1)
theorem Jn{ok:nP}(op:Int)(v:Value)(l:List V3)(w:World)(h:aH VR w ok v l)(g:(op=11/\l.length=1)\/(6<=op/\op<=13/\op≠11/\l.length=2)):Calls prog 285 #[.int .i64 op,v] w (eA (vD op l) w):=by
 rcases g with ⟨rfl,f⟩|⟨h6,h13,h11,f⟩
 .obtain⟨a,rfl⟩:=List.length_eq_one_iff.1 f;by_cases c:aT a=true
  .exact Cv v a w h c
  .have d:aT a=false:=by simpa using c
   have e:vD 11 [a]=(bD,1):=by show nT 11 a=_;unfold nT;rw[iP d]
   rw[e];exact FW 11 v [a] w h qe qe rfl (by simp[d])
 .obtain⟨a,b,rfl⟩:∃a b,l=[a,b]:=by
   match l,f with
   | [a,b],_=>exact⟨a,b,rfl⟩
  by_cases c:aT a=true/\aT b=true
  .show Calls _ _ _ _ (eA (dI op a b) w);have:op=6\/op=7\/op=8\/op=9\/op=10\/op=12\/op=13:=qo
   rcases this with rfl|rfl|rfl|rfl|rfl|rfl|rfl
   .exact Hz v a b w h c
   .exact Ia v a b w h c
   .exact Ib v a b w h c
   .exact Ic v a b w h c
   .exact Cs v a b w h c
   .exact Ct v a b w h c
   .exact Cu v a b w h c
  .have d:aT a=false\/aT b=false:=by
    by_cases h1:aT a=true
    .exact .inr (by simpa using fun h2=>c ⟨h1,h2⟩)
    .exact .inl (by simpa using h1)
   have e:vD op [a,b]=(bD,1):=by show dI op a b=_;unfold dI;rw[iP d]
   rw[e];refine FW op v [a,b] w h h6 h13 (by unfold RQ;rw[iN h11];rfl) ?_
   rcases d with d|d<;>simp[d]
theorem oJ:bK 0:=by unfold bK;decide
theorem KS:bK 1:=by unfold bK;decide
theorem KT:bK 2:=by unfold bK;decide
theorem Zz:bK 3:=by unfold bK;decide
theorem kA:cS bD:=⟨oJ,oJ,qe⟩
theorem nS(b:Bool):cS (cH b):=by
 cases b
 .exact⟨KS,oJ,qe⟩
 .exact⟨KS,KS,qe⟩
theorem Pf(a b:V3):bK (jT a b).2:=by
 unfold jT;split
 .exact KS
 split
 .exact KT
 split<;>exact oJ
theorem xY{f:Int->Int->Int×Int}(c:∀a b,bK (f a b).1/\bK (f a b).2)(a b:V3):cS (eF f a b).1/\bK (eF f a b).2:=by
 unfold eF;split
 .exact⟨kA,KT⟩
 split
 .exact⟨kA,(c _ _).2⟩
 .exact⟨⟨KT,(c _ _).1,show ByteArray.empty.size<=cQ by decide⟩,oJ⟩
theorem MX(x:Int):bK (if kB<=x/\x<=lF then (x,(0:Int)) else (0,3)).1/\bK (if kB<=x/\x<=lF then (x,(0:Int)) else (0,3)).2:=by
 split
 .rename_i h;exact⟨h,oJ⟩
 .exact⟨oJ,Zz⟩
theorem Jo(op:Int)(l:List V3):cS (vD op l).1/\bK (vD op l).2:=by
 have one:=KS;have two:=KT;have zero:=oJ;unfold vD;split
 .unfold nT;split
  .exact⟨kA,one⟩
  split
  .exact⟨kA,two⟩
  .exact⟨nS _,zero⟩
 .unfold dI;split
  .exact⟨kA,one⟩
  split
  .split
   .exact⟨kA,two⟩
   .exact⟨nS _,zero⟩
  split
  .split
   .exact⟨kA,Pf _ _⟩
   .exact⟨nS _,zero⟩
  split
  .exact xY (fun a b=>MX (a+b)) _ _
  split
  .exact xY (fun a b=>MX (a - b)) _ _
  split
  .exact xY (fun a b=>MX (a * b)) _ _
  split
  .exact⟨kA,two⟩
  split<;>exact⟨nS _,zero⟩
 .exact⟨kA,one⟩
def BL(w:World)(ok:nP)(x:It)(vb:Value):Prop:=aH VR w ok vb x.bag/\cS x.val/\bK x.err
def sI:Rep It:=fun w ok cs x=>∃vb,cs=[vb,.int .i64 x.val.1,.int .i64 x.val.2.1,.string x.val.2.2,.int .i64 x.err]/\BL w ok x vb
theorem iG:Firm sI 5:={
 aCT:=fun⟨vb,e,h1,h2,h3⟩ b=>⟨vb,e,aH.aCT bG h1 b,h2,h3⟩
 more:=fun⟨vb,e,h1,h2,h3⟩ c=>⟨vb,e,aH.more bG h1 c,h2,h3⟩
 len:=fun⟨vb,e,h⟩=>by rw[e];rfl
 one:=fun⟨vb,e,h⟩=>by
  intro v a;rw[e] at a;simp only[List.mem_cons,List.not_mem_nil,or_false] at a
  rcases a with rfl|rfl|rfl|rfl|rfl
  .exact kU h.1
  .rfl
  .rfl
  .rfl
  .rfl
 inb:=fun⟨vb,e,h1,h2,h3⟩=>⟨vb,e,aH.inb bG h1,h2,h3⟩}
def pD(x:It)(w:World)(e:Ending)(w':World):Prop:=∃vb,e=.returned (.agg #[vb,.int .i64 x.val.1,.int .i64 x.val.2.1,.string x.val.2.2,.int .i64 x.err])/\BL w' (fun b=>w.heap.size<=b) x vb/\Below w.heap.size w w'
theorem lY{x:It}{v:V3}{e:Int}{w w':World}(c:x=jH v e)(b:cS v)(he:bK e)(a:Below w.heap.size w w'):pD x w (.returned (.agg #[.slice none 0 0,.int .i64 v.1,.int .i64 v.2.1,.string v.2.2,.int .i64 e])) w':=by
 subst c;exact⟨_,rfl,⟨aH.nil,b,he⟩,a⟩
theorem Dy{w:World}{g:Nat}{a b c d e:Value}:aN (fun k=>k≠g) w (((((w.setCell ⟨g,0,none⟩ a).setCell ⟨g,1,none⟩ b).setCell ⟨g,2,none⟩ c).setCell ⟨g,3,none⟩ d).setCell ⟨g,4,none⟩ e):=
 ((((aI a).trans (aI b)).trans (aI c)).trans (aI d)).trans (aI e)
theorem uB{W w:World}{g:Nat}{a b c d e:Value}(h:Below W.heap.size W w)(f:W.heap.size<=g):Below W.heap.size W (((((w.setCell ⟨g,0,none⟩ a).setCell ⟨g,1,none⟩ b).setCell ⟨g,2,none⟩ c).setCell ⟨g,3,none⟩ d).setCell ⟨g,4,none⟩ e):=
 ((((h.setCell f _).setCell f _).setCell f _).setCell f _).setCell f _
abbrev nF:Array Value:=#[.slice none 0 0,.int .i64 0,.int .i64 0,.string ⟨#[]⟩,.int .i64 0]
theorem Jp{ok ok':nP}(n:No)(a:oO n)(d:Value)(l:List It)(c:Value)(g:List Gv)(w:World)(b:aH sI w ok' d l)(h:aH jN w ok c g)(h1:n.op=1)(i:l=[]):Calls prog 270 #[jK n,d,c] w (pD (iL g n l) w):=by
 obtain⟨o,gc,rfl,_⟩:=h.slice;obtain⟨la,lc,rfl,p⟩:=b.slice;have j:=aA (aC (aB w (.cells (iO n) 301)) (aB _ (.cells nF 351)));have k:=aA (aE (aK w (.cells (iO n) 301) _ rfl) (aB (w.alloc (.cells (iO n) 301)) (.cells nF 351)));have m:Hid (((w.alloc (.cells (iO n) 301)).alloc (.cells nF 351)).heap[w.heap.size+1]? =some (.cells nF 351 (0,0))):=aA (aK (w.alloc (.cells (iO n) 301)) (.cells nF 351) _ qs);subst i;have d1:(n.op==1)=true:=bQ.2 h1;have f:Hid (iL g n []=jH n.val 0):=aA (iP h1);have e:=aA a.2.1;rw[f.o];unfold jK;clear b h a h1;go_enter func270,ntmps270;go_wp2;refine bR (.agg #[.slice none 0 0,.int .i64 n.val.1,.int .i64 n.val.2.1,.string n.val.2.2,.int .i64 0]) ?_;exact lY rfl e.o oJ (aC (aB _ _) (aB _ _))
theorem Jq{ok ok':nP}(n:No)(C:oO n)(t:Value)(l:List It)(s:Value)(g:List Gv)(w:World)(q:aH sI w ok' t l)(h:aH jN w ok s g)(h1:n.op=2)(E:l=[]):Calls prog 270 #[jK n,t,s] w (pD (iL g n l) w):=by
 obtain⟨R,gc,rfl,_⟩:=h.slice;obtain⟨la,lc,rfl,S⟩:=q.slice;have m:=aA (aC (aB w (.cells (iO n) 301)) (aB _ (.cells nF 351)));have c:=aA (aE (aK w (.cells (iO n) 301) _ rfl) (aB (w.alloc (.cells (iO n) 301)) (.cells nF 351)));have d:Hid (((w.alloc (.cells (iO n) 301)).alloc (.cells nF 351)).heap[w.heap.size+1]? =some (.cells nF 351 (0,0))):=aA (aK (w.alloc (.cells (iO n) 301)) (.cells nF 351) _ qs);subst E;have d1:(n.op==1)=false:=bN.2 qo;have d2:(n.op==2)=true:=bQ.2 h1;have p:Hid (iL g n []=⟨(rJ g n.aDa).1,bD,(rJ g n.aDa).2⟩):=aA (iN qo);have a:=aA (TC _ g n.aDa _ (h.on cA m.o));rw[p.o];unfold jK;unfold sX oG at a;have o:Hid (bK (rJ g n.aDa).2):=aA (by unfold rJ;split;exact(by unfold bK;decide);exact oJ);generalize rJ g n.aDa=r at *;obtain⟨bag,B⟩:=r;simp only at a o;clear q h C h1 p;go_enter func270,ntmps270;go_wp2_with fail;refine a.o.mono ?_;rintro e w1 ⟨v,rfl,j,f⟩;obtain⟨z,A,rfl,_⟩:=j.slice;have y:=aA (j.more bG (ok':=fun b=>w.heap.size<=b/\b≠w.heap.size+1) (fun b i=>by simp only[World.size_alloc] at i;exact⟨qo,qo⟩));have x:=qB m f;replace c:=qK c f;obtain⟨⟨F,G,H,I,J,K,L⟩,_⟩:=bI c.o;have T:=aD c.o;replace d:=qK d f;obtain⟨⟨M,N,O,P,Q⟩,_⟩:=dJ d.o;have U:=aD d.o;clear j f a;go_wp2;refine bR (.agg #[.slice z bag.length A,.int .i64 0,.int .i64 0,.string ⟨#[]⟩,.int .i64 B]) ?_;refine⟨_,rfl,⟨?_,kA,o.o⟩,uB x.o (Nat.le_succ _)⟩;exact aH.more bG (aH.aCT bG y.o (Dy.mono fun k _ D=>D.2)) (fun b i=>i.1)
theorem Jr{w:World}{ok:nP}{v:Value}{l:List It}(h:aH sI w ok v l){k:Nat}(b:k<l.length):cS l[k].val/\bK l[k].err/\l[k].bag.length<=1000000:=by
 obtain⟨a,c,rfl,_⟩:=h.slice;obtain⟨b',i,r,e,_,f,⟨vb,rfl,hp⟩,g⟩:=aH.at iG h b qe;obtain⟨_,_,_,d⟩:=hp.1.slice;exact⟨hp.2.1,hp.2.2,d⟩
theorem tM{w:World}{ok:nP}{b off n c k:Nat}{l:List It}(h:aH sI w ok (.slice (some ⟨b,off,none⟩) n c) l)(m:k<l.length):
 ∃d f,w.cell? ⟨b,off+k * 5,none⟩=some (.slice d l[k].bag.length f)/\w.cell? ⟨b,off+k * 5+1,none⟩=some (.int .i64 l[k].val.1)/\w.cell? ⟨b,off+k * 5+2,none⟩=some (.int .i64 l[k].val.2.1)/\w.cell? ⟨b,off+k * 5+3,none⟩=some (.string l[k].val.2.2)/\w.cell? ⟨b,off+k * 5+4,none⟩=some (.int .i64 l[k].err)/\
  BL w ok l[k] (.slice d l[k].bag.length f)/\b<w.heap.size:=by
 obtain⟨b',o,r,e,_,j,⟨vb,rfl,hp⟩,a⟩:=aH.at iG h m qe;injection e with e;injection e with g i _;subst g i;obtain⟨d,f,rfl,_⟩:=hp.1.slice;exact⟨d,f,by have:=a 0 _ rfl;rwa [Nat.add_zero] at this,a 1 _ rfl,a 2 _ rfl,a 3 _ rfl,a 4 _ rfl,hp,j⟩
theorem AP{w:World}{ok:nP}{a:oD}{n c:Nat}{l:List It}(h:aH sI w ok (.slice a n c) l)(d:0<l.length):∃b off,a=some ⟨b,off,none⟩:=by
 obtain⟨b',f,r,e,_⟩:=aH.at iG h d qe;exact⟨_,_,e⟩
theorem Pg(l:List It)(k:Nat)(a:k<l.length):(l.take k).map (·.val)++[l[k].val]=(l.take (k+1)).map (·.val):=by
 rw[List.take_succ_eq_append_getElem a,List.map_append];rfl
def xL(n:No)(l:List It):Prop:=(n.op=3/\l.length=1)\/(n.op=4/\l.length=1)\/(n.op=5/\l.length=2)\/((n.op=11/\l.length=1)\/(6<=n.op/\n.op<=13/\n.op≠11/\l.length=2))
def xM(n:No)(l:List It):Prop:=(n.op=12\/n.op=13)/\∃a b,l=[a,b]/\(a.is (n.op - 12)=true\/b.is (n.op - 12)=true)
theorem YC{g:List Gv}{n:No}{l:List It}(h:xM n l):iL g n l=jH (cH (decide (n.op=13))) 0:=by
 obtain⟨h1,a,b,rfl,h2⟩:=h;show (if (n.op=12\/n.op=13)/\(a.is (n.op - 12)=true\/b.is (n.op - 12)=true) then jH (cH (decide (n.op=13))) 0 else _)=_;rw[iP ⟨h1,h2⟩]
theorem uC{g:List Gv}{n:No}{a:It}:iL g n [a]=if a.err≠0 then jH bD a.err else if n.op=3 then (match a.bag with | [v]=>jH v 0|_=>jH bD 4) else if n.op=4 then jH (2,a.bag.length,ByteArray.empty) 0 else jH (nT n.op a.val).1 (nT n.op a.val).2:=rfl
theorem DR{g:List Gv}{n:No}{a b:It}(h:¬xM n [a,b]):iL g n [a,b]=if a.err≠0 then jH bD a.err else if b.err≠0 then jH bD b.err else if n.op=5 then jH (cH (a.bag.any (fun v=>decide (v=b.val)))) 0 else jH (dI n.op a.val b.val).1 (dI n.op a.val b.val).2:=by
 show (if (n.op=12\/n.op=13)/\(a.is (n.op - 12)=true\/b.is (n.op - 12)=true) then _ else _)=_;rw[iN (fun h2=>h ⟨h2.1,a,b,rfl,h2.2⟩)]
theorem PE{g:List Gv}{n:No}{l:List It}(d:l.length=1\/l.length=2)(he:¬xM n l){k:Nat}(c:k<l.length)(h0:∀i (e:i<l.length),i<k->l[i].err=0)(h1:l[k].err≠0):iL g n l=jH bD l[k].err:=by
 match l,d with
 | [a],_=>
   obtain rfl:k=0:=by simp at c;omega
   rw[uC,iP (show a.err≠0 from h1)];rfl
 | [a,b],_=>
   rw[DR he]
   match k,c with
   |0,_=>rw[iP (show a.err≠0 from h1)];rfl
   |1,_=>
    have h2:a.err=0:=h0 0 qs qo;rw[iN (fun h=>h h2),iP (show b.err≠0 from h1)];rfl
theorem Dz{g:List Gv}{n:No}{l:List It}(d:(n.op=11/\l.length=1)\/(6<=n.op/\n.op<=13/\n.op≠11/\l.length=2))(he:¬xM n l)(h0:∀i (e:i<l.length),l[i].err=0):iL g n l=jH (vD n.op (l.map (·.val))).1 (vD n.op (l.map (·.val))).2:=by
 rcases d with ⟨f,c⟩|⟨h6,h13,h11,c⟩
 .match l,c with
  | [a],_=>
    rw[uC,iN (fun h=>h (h0 0 qs)),iN qo,iN qo];rfl
 .match l,c with
  | [a,b],_=>
    rw[DR he,iN (fun h=>h (h0 0 qs)),iN (fun h=>h (h0 1 qs)),iN qo];rfl
theorem QCO{p:Prop}(h:p:=by
 exact⟨0,none,0,qo,rfl,rfl,aA (fun i _ h=>absurd h qo),aA aM.nil,aA (Below.refl _ _)⟩):p:=h
theorem QBa{p:Prop}(h:p:=by
 try clear NB0 NB1 NB2 NB3 NB4 NB5 NB6 zNB
 replace NB:=qK NB hb_;obtain⟨⟨NB0,NB1,NB2,NB3,NB4,NB5,NB6⟩,_⟩:=bI NB.o;have zNB:=aD NB.o
 try clear RB0 RB1 RB2 RB3 RB4 zRB
 replace RB:=qK RB hb_;obtain⟨⟨RB0,RB1,RB2,RB3,RB4⟩,_⟩:=dJ RB.o;have zRB:=aD RB.o;clear hb_ HT;go_wp2;refine bR (.agg #[.slice none 0 0,.int .i64 1,.int .i64 n1,.string ByteArray.empty,.int .i64 0]) ?_;exact lY rfl HG1.o oJ (uB HB3.o (Nat.le_succ _))):p:=h
theorem QAB{p:Prop}(h:p:=by
 obtain⟨⟨u0,u1,u2,u3,u4⟩,_⟩:=dJ RB2.o;obtain⟨⟨v0,v1,v2,v3,v4,v5,v6⟩,_⟩:=bI NB2.o;have zu:=aD RB2.o;have HF:=aA (Jn n.op _ (l.map (·.val)) wr (HG9.o.sl (by rw[List.length_map];omega) (fun _=>True) (fun _ _ _=>trivial) (fun _ _ _=>trivial) bG) (by rw[List.length_map];exact hca));have HV2:=aA (Dz (g:=g) hca HEA.o HQ9.o);have HGC:=aA (Jo n.op (l.map (·.val)));unfold eA dB at HF;generalize vD n.op (l.map (·.val))=r at *;obtain⟨⟨r0,r1,r2⟩,en⟩:=r;simp only at HF;clear hca;go_wp2_with fail;refine HF.o.mono ?_;rintro e w2 ⟨rfl,hb_⟩;have HB2:=qB HBT hb_;clear u0 u1 u2 u3 u4 v0 v1 v2 v3 v4 v5 v6 zu;replace RB2:=qK RB2 hb_;obtain⟨⟨RB20,RB21,RB22,RB23,RB24⟩,_⟩:=dJ RB2.o;have zRB2:=aD RB2.o;clear hb_ HF;go_wp2;refine bR (.agg #[.slice none 0 0,.int .i64 r0,.int .i64 r1,.string r2,.int .i64 en]) ?_;rw[HRES.o,HV2.o];exact lY rfl HGC.o.1 HGC.o.2 (aC (uB HB2.o (Nat.le_succ _)) (aB _ _))):p:=h
theorem QAf{p:Prop}(h:p:=by
 have hk1:(k:Int)<(l.length:Int):=qo;obtain⟨ba,bc,x0,x1,x2,x3,x4,_,hbl⟩:=tM (HL.o.on iG HBT.o) hlt;have hgd:=Jr HL.o hlt;have HQ2:=aA (fun h1=>HER.o k hlt HQ.o h1);have HQ3:Hid (l[k].err=0->∀i (hi:i<l.length),i<k+1->l[i].err=0):=aA (fun h1 i hi h=>by
  rcases Nat.lt_or_ge i k with h2|h2
  .exact HQ.o i hi h2
  .obtain rfl:i=k:=qo;exact h1)
 have HHV:=aA (Pg l k hlt);have HGD:=aA hgd;clear hgd HQ;generalize hx:l[k]=x at *;clear hx;by_cases he:x.err=0
 .have d:(x.err != 0)=false:=by rw[he];rfl
  have HQ4:=aA (HQ3.o he);have HB2:=qB HB (aB wr (.cells #[.slice ba x.bag.length bc,.int .i64 x.val.1,.int .i64 x.val.2.1,.string x.val.2.2,.int .i64 x.err] 351));have HB3:=qB HB2 (aB _ (.cells #[.int .i64 x.val.1,.int .i64 x.val.2.1,.string x.val.2.2] 44));have HNE:=aA (aK (wr.alloc (.cells #[.slice ba x.bag.length bc,.int .i64 x.val.1,.int .i64 x.val.2.1,.string x.val.2.2,.int .i64 x.err] 351)) (.cells #[.int .i64 x.val.1,.int .i64 x.val.2.1,.string x.val.2.2] 44) (wr.heap.size+1) qs);have HG2:=aA (HG.o.on bG (aC (aB wr (.cells #[.slice ba x.bag.length bc,.int .i64 x.val.1,.int .i64 x.val.2.1,.string x.val.2.2,.int .i64 x.err] 351)) (aB _ (.cells #[.int .i64 x.val.1,.int .i64 x.val.2.1,.string x.val.2.2] 44))));have HLK:=aA (show ((l.take k).map (·.val)).length=k by rw[List.length_map,List.length_take];omega);have HSZ:=aA HB.o.size;have HLL:=aA hll;clear he HQ2 HQ3 HG;go_wp2_with (at_builtin;refine cB (base:=W.heap.size) Xk bG rfl (.tmp 67) (.tmp 70) rfl _ ((l.take k).map (·.val)) rfl HG2.o (wr.heap.size+1) 1 _ _ _ x.val rfl HNE.o ⟨rfl,HGD.o.1⟩ (by rw[HLK.o];have:=HLL.o;omega) qo (by have:=HSZ.o;simp only[World.size_alloc];omega) ?_;intro l' hl' A' c2 w9 hG hgr hat';have HG9:=aA hG;have HB9:=aA (HG2.o.below HB3.o hgr (lR _) (by have:=HSZ.o;simp only[World.size_alloc];omega));have HL9:=aA hl'.o;clear hG hgr hat' hl')
  have e9:l'.length=k+1:=by rw[HL9.o,aL,HLK.o];rfl
  rw[e9] at HG9 ⊢;go_roundw
  case rel=>exact⟨k+1,A',c2,qo,by go_num,rfl,HQ4,aA (by have:=HG9.o;rw[HL9.o,HHV.o] at this;exact this),HB9⟩
  case measure=>simp[intOf];omega
 .have d:(x.err != 0)=true:=bne_iff_ne.2 he;have HX:=aA (HQ2.o he);have RB2:=qK RB HB.o;obtain⟨⟨u0,u1,u2,u3,u4⟩,_⟩:=dJ RB2.o;have zu:=aD RB2.o;clear he HQ2 HQ3;go_wp2;refine bR (.agg #[.slice none 0 0,.int .i64 0,.int .i64 0,.string ⟨#[]⟩,.int .i64 x.err]) ?_;rw[HX.o];exact lY rfl kA HGD.o.2.1 (aC (uB HBT.o (Nat.le_succ _)) (aB _ _))):p:=h
theorem Js{ok ok':nP}(n:No)(V:oO n)(G:Value)(l:List It)(F:Value)(g:List Gv)(w:World)(f:aH sI w ok' G l)(h:aH jN w ok F g)(he:xM n l):Calls prog 270 #[jK n,G,F] w (pD (iL g n l) w):=by
 obtain⟨Z,gc,rfl,_⟩:=h.slice;obtain⟨la,lc,rfl,aa⟩:=f.slice;have t:=aA (aC (aB w (.cells (iO n) 301)) (aB _ (.cells nF 351)));have NB:=aA (aE (aK w (.cells (iO n) 301) _ rfl) (aB (w.alloc (.cells (iO n) 301)) (.cells nF 351)));have RB:Hid (((w.alloc (.cells (iO n) 301)).alloc (.cells nF 351)).heap[w.heap.size+1]? =some (.cells nF 351 (0,0))):=aA (aK (w.alloc (.cells (iO n) 301)) (.cells nF 351) _ qs);have z:=aA (YC (g:=g) he);obtain⟨C,x,y,rfl,d⟩:=he;have v:=aA f;obtain⟨b,off,rfl⟩:=AP f qs;obtain⟨n1,i⟩:∃n1:Int,(if decide (n.op=13)=true then (1:Int) else 0)=n1:=⟨_,rfl⟩;have HT:=aA (fun w'=>GJ (decide (n.op=13)) n1 i w');have HG1:Hid (cS (1,n1,ByteArray.empty)):=aA (by rw[<-i];exact nS (decide (n.op=13)));have A:Hid (iL g n [x,y]=jH (1,n1,ByteArray.empty) 0):=aA (by rw[z.o];unfold cH;rw[i]);rw[A.o];obtain⟨m,hm⟩:=xE (n.op - 12);rw[<-hm] at d;have em:(m==1)=decide (n.op=13):=by rw[Bool.eq_iff_iff];simp;omega
 have U:IntKind.i64.wrap (n.op - 12)=m:=by rw[hm];exact IntWalk.i64_in _ qo
 have d1:(n.op==1)=false:=bN.2 qo;have d2:(n.op==2)=false:=bN.2 qo;have Y:wrap64 (n.op - 12)=m:=by rw[<-IntWalk.i64_left];exact U
 have T:Hid (((n.op==12)=true)\/((n.op==12)=false/\(n.op==13)=true)):=aA (by
  rcases C with h|h
  .exact .inl (bQ.2 h)
  .exact .inr ⟨bN.2 qo,bQ.2 h⟩)
 obtain⟨tb,E⟩:∃tb,decide (n.op=13)=tb:=⟨_,rfl⟩;rw[E] at HT em;unfold aP at HT;have a:=aA (fun o r w'=>tB o x.bag.length r x.bag x.val x.err m w');have c:=aA (fun o r w'=>tB o y.bag.length r y.bag y.val y.err m w');unfold aP at a c;have ex:It.is ⟨x.bag,x.val,x.err⟩ m=x.is m:=rfl;have B:It.is ⟨y.bag,y.val,y.err⟩ m=y.is m:=rfl;rw[ex] at a;rw[B] at c;unfold jK;obtain⟨p,hp⟩:∃p,x.is m=p:=⟨_,rfl⟩;obtain⟨q,D⟩:∃q,y.is m=q:=⟨_,rfl⟩;rw[hp] at a d;rw[D] at c d;have S:=aA d;clear f h V C hm d ex B hp D E i z A
 rcases T.o with d3|⟨d3,d4⟩
 all_goals
  obtain⟨xa,xc,H,I,J,K,L,_,s⟩:=tM (k:=0) (v.o.on iG t.o) qs;simp only[Nat.zero_mul,Nat.add_zero,List.getElem_cons_zero] at H I J K L;go_enter func270,ntmps270;go_wp2_with fail;refine(a.o _ _ _).mono ?_;rintro e w1 ⟨rfl,hb_⟩;have j:=qB t hb_;replace NB:=qK NB hb_;obtain⟨⟨NB0,NB1,NB2,NB3,NB4,NB5,NB6⟩,_⟩:=bI NB.o;have zNB:=aD NB.o;replace RB:=qK RB hb_;obtain⟨⟨RB0,RB1,RB2,RB3,RB4⟩,_⟩:=dJ RB.o;have zRB:=aD RB.o;clear hb_ a H I J K L s
  cases p
  .have W:q=true:=by rcases S.o with h|h;cases h;exact h
   subst W;obtain⟨ya,yc,M,N,O,P,Q,_,s⟩:=tM (k:=1) (v.o.on iG j.o) qs;simp only[Nat.one_mul,List.getElem_cons_succ,List.getElem_cons_zero] at M N O P Q;go_wp2_with fail;refine(c.o _ _ _).mono ?_;rintro e w2 ⟨rfl,hb_⟩;have R:=qB j hb_
   try clear NB0 NB1 NB2 NB3 NB4 NB5 NB6 zNB
   replace NB:=qK NB hb_;obtain⟨⟨NB0,NB1,NB2,NB3,NB4,NB5,NB6⟩,_⟩:=bI NB.o;have zNB:=aD NB.o
   try clear RB0 RB1 RB2 RB3 RB4 zRB
   replace RB:=qK RB hb_;obtain⟨⟨RB0,RB1,RB2,RB3,RB4⟩,_⟩:=dJ RB.o;have zRB:=aD RB.o;clear hb_ c M N O P Q s;go_wp2_with fail;refine(HT.o _).mono ?_;rintro e X ⟨rfl,hb_⟩;have HB3:=qB R hb_;exact QBa
  .go_wp2_with fail;refine(HT.o _).mono ?_;rintro e X ⟨rfl,hb_⟩;have HB3:=qB j hb_;exact QBa
theorem Jt{ok ok':nP}(n:No)(U:oO n)(vl:Value)(l:List It)(vg:Value)(g:List Gv)(w:World)(t:aH sI w ok' vl l)(h:aH jN w ok vg g)(z:n.op=12\/n.op=13)(he:¬xM n l)(j:l.length=2):Calls prog 270 #[jK n,vl,vg] w (pD (iL g n l) w):=by
 obtain⟨ga,gc,rfl,_⟩:=h.slice;obtain⟨la,lc,rfl,hll⟩:=t.slice;have c:=aA (aC (aB w (.cells (iO n) 301)) (aB _ (.cells nF 351)));have a:=aA (aE (aK w (.cells (iO n) 301) _ rfl) (aB (w.alloc (.cells (iO n) 301)) (.cells nF 351)));have RB:Hid (((w.alloc (.cells (iO n) 301)).alloc (.cells nF 351)).heap[w.heap.size+1]? =some (.cells nF 351 (0,0))):=aA (aK (w.alloc (.cells (iO n) 301)) (.cells nF 351) _ qs);have HEA:=aA he;have hca:(n.op=11/\l.length=1)\/(6<=n.op/\n.op<=13/\n.op≠11/\l.length=2):=qo;have aa:=aA hca;have Z:l.length=1\/l.length=2:= .inr j;have HL:=aA t;have L:0<l.length:=qo;have V:1<l.length:=qo;obtain⟨b,off,rfl⟩:=AP t L;have HER:=aA (fun k (f:k<l.length) h0 h1=>PE (g:=g) Z he f h0 h1);obtain⟨af,M⟩:=xE (iL g n l);have HRES:=aA M;rw[<-M] at HER ⊢;obtain⟨m,hm⟩:=xE (n.op - 12);have S:IntKind.i64.wrap (n.op - 12)=m:=by rw[hm];exact IntWalk.i64_in _ qo
 have ad:wrap64 (n.op - 12)=m:=by rw[<-IntWalk.i64_left];exact S
 have d1:(n.op==1)=false:=bN.2 qo;have d2:(n.op==2)=false:=bN.2 qo;have R:Hid (((n.op==12)=true)\/((n.op==12)=false/\(n.op==13)=true)):=aA (by
  rcases z with h|h
  .exact .inl (bQ.2 h)
  .exact .inr ⟨bN.2 qo,bQ.2 h⟩)
 have P:Hid (∀(f:0<l.length),l[0].is m=false):=aA (fun f=>by
  rw[hm];refine Bool.eq_false_iff.2 (fun h=>he ⟨z,?_⟩)
  match l,j with
  | [x,y],_=>exact⟨x,y,rfl,.inl h⟩)
 have Q:Hid (∀(f:1<l.length),l[1].is m=false):=aA (fun f=>by
  rw[hm];refine Bool.eq_false_iff.2 (fun h=>he ⟨z,?_⟩)
  match l,j with
  | [x,y],_=>exact⟨x,y,rfl,.inr h⟩)
 obtain⟨xa,xc,x0,x1,x2,x3,x4,_,hbl⟩:=tM (k:=0) (HL.o.on iG c.o) L;have o:=aA (fun w'=>tB xa l[0].bag.length xc l[0].bag l[0].val l[0].err m w');have p:=aA (fun ba bc w'=>tB ba l[1].bag.length bc l[1].bag l[1].val l[1].err m w');unfold aP at o p;have ex:It.is ⟨l[0].bag,l[0].val,l[0].err⟩ m=false:=P.o L;have T:It.is ⟨l[1].bag,l[1].val,l[1].err⟩ m=false:=Q.o V;rw[ex] at o;rw[T] at p;simp only[Nat.zero_mul,Nat.add_zero] at x0 x1 x2 x3 x4;have ag:(0:Int)<(l.length:Int):=qo;have ah:(1:Int)<(l.length:Int):=qo;have HV:=aA U;have ae:=aA j;unfold jK;clear h hca he z Z M hm U t ex T P Q j;generalize hX:l[0]=X at *;have ab:=aA (show ∃y,l[1]=y from ⟨_,rfl⟩)
 rcases R.o with d3|⟨d3,d4⟩
 all_goals
  go_enter func270,ntmps270;go_wp2_with fail;refine(o.o _).mono ?_;rintro e w1 ⟨rfl,hb_⟩;have A:=qB c hb_;replace a:=qK a hb_;obtain⟨⟨B,C,NB2,D,E,F,G⟩,_⟩:=bI a.o;have N:=aD a.o;replace RB:=qK RB hb_;obtain⟨⟨H,I,RB2,J,K⟩,_⟩:=dJ RB.o;have O:=aD RB.o;clear hb_ o x0 x1 x2 x3 x4 hbl;obtain⟨ya,yc,y0,y1,y2,y3,y4,_,hbl⟩:=tM (k:=1) (HL.o.on iG A.o) V;simp only[Nat.one_mul] at y0 y1 y2 y3 y4;generalize hY:l[1]=Y at *;go_wp2_with fail;refine(p.o _ _ _).mono ?_;rintro e W ⟨rfl,hb_⟩;clear c;have c:=qB A hb_
  try clear B C NB2 D E F G N
  replace a:=qK a hb_;obtain⟨⟨B,C,NB2,D,E,F,G⟩,_⟩:=bI a.o;have N:=aD a.o
  try clear H I RB2 J K O
  replace RB:=qK RB hb_;obtain⟨⟨H,I,RB2,J,K⟩,_⟩:=dJ RB.o;have O:=aD RB.o;clear hb_ p y0 y1 y2 y3 y4 hbl hX hY ab H I RB2 J K O B C NB2 D E F G N A R d1 d2 S ad;go_wp2;go_loopw [10,57] (fun v i wr=>∃(k:Nat) (q:oD) (s:Nat),k<=l.length/\i=.int .i64 k/\v=.slice q k s/\Hid (∀i (hi:i<l.length),i<k->l[i].err=0)/\Hid (aM VR 3 44 wr W.heap.size (fun _=>True) (.slice q k s) ((l.take k).map (·.val)))/\Hid (Below W.heap.size W wr)) (fun _ i _=>l.length - (intOf i).toNat)
  case atStart=>exact QCO
  case round=>
   obtain⟨k,q,s,f,rfl,rfl,HQ,HG,HB⟩:=hrel;have HBT:=aA (c.o.trans (HB.o.mono c.o.size));by_cases hlt:k<l.length
   .exact QAf
   .have hk1:¬(k:Int)<(l.length:Int):=qo;obtain rfl:k=l.length:=qo;have HQ9:=aA (fun i (hi:i<l.length)=>HQ.o i hi hi);have HG9:=aA (by have h:=HG.o;rw[List.take_of_length_le (lR _)] at h;exact h:aM VR 3 44 wr W.heap.size (fun _=>True) (.slice q l.length s) (l.map (·.val)));have RB2:=qK RB HB.o;have NB2:=qK a HB.o;clear HQ HG HER;have hca:=aa.o;have d5:(n.op==3)=false:=bN.2 qo;have d6:(n.op==4)=false:=bN.2 qo;have d7:(n.op==5)=false:=bN.2 qo;exact QAB
theorem Ju{ok ok':nP}(n:No)(U:oO n)(vl:Value)(l:List It)(vg:Value)(g:List Gv)(w:World)(z:aH sI w ok' vl l)(h:aH jN w ok vg g)(I:n.op≠12/\n.op≠13)(he:¬xM n l)(o:xL n l):Calls prog 270 #[jK n,vl,vg] w (pD (iL g n l) w):=by
 obtain⟨ga,gc,rfl,_⟩:=h.slice;obtain⟨la,lc,rfl,hll⟩:=z.slice;have D:=aA (aC (aB w (.cells (iO n) 301)) (aB _ (.cells nF 351)));have Q:=aA (aE (aK w (.cells (iO n) 301) _ rfl) (aB (w.alloc (.cells (iO n) 301)) (.cells nF 351)));have RB:Hid (((w.alloc (.cells (iO n) 301)).alloc (.cells nF 351)).heap[w.heap.size+1]? =some (.cells nF 351 (0,0))):=aA (aK (w.alloc (.cells (iO n) 301)) (.cells nF 351) _ qs);have HEA:=aA he;have HC:=aA o;have B:l.length=1\/l.length=2:=by unfold xL at o;omega
 have af:=aA B;have HL:=aA z;obtain⟨b,off,rfl⟩:=AP z qo;have HER:=aA (fun k (X:k<l.length) h0 h1=>PE (g:=g) B he X h0 h1);have d1:(n.op==1)=false:=bN.2 (by unfold xL at o;omega);have d2:(n.op==2)=false:=bN.2 (by unfold xL at o;omega);have d3:(n.op==12)=false:=bN.2 I.1;have d4:(n.op==13)=false:=bN.2 I.2;obtain⟨ag,J⟩:=xE (iL g n l);have HRES:=aA J;rw[<-J] at HER ⊢;obtain⟨W0,L⟩:=xE ((w.alloc (.cells (iO n) 301)).alloc (.cells nF 351));rw[<-L] at D Q RB;have P:=aA L;have HV:=aA U;have ae:=B;unfold jK;clear h o he B J L U z ae I;go_enter func270,ntmps270;go_wp2;rw[<-P.o];clear P;obtain⟨W,hW⟩:=xE W0;subst hW;go_loopw [10,57] (fun v i wr=>∃(k:Nat) (q:oD) (s:Nat),k<=l.length/\i=.int .i64 k/\v=.slice q k s/\Hid (∀i (hi:i<l.length),i<k->l[i].err=0)/\Hid (aM VR 3 44 wr W.heap.size (fun _=>True) (.slice q k s) ((l.take k).map (·.val)))/\Hid (Below W.heap.size W wr)) (fun _ i _=>l.length - (intOf i).toNat)
 case atStart=>exact QCO
 case round=>
  obtain⟨k,q,s,X,rfl,rfl,HQ,HG,HB⟩:=hrel;have HBT:=aA (D.o.trans (HB.o.mono D.o.size));by_cases hlt:k<l.length
  .exact QAf
  .have hk1:¬(k:Int)<(l.length:Int):=qo;obtain rfl:k=l.length:=qo;have HQ9:=aA (fun i (hi:i<l.length)=>HQ.o i hi hi);have HG9:=aA (by have h:=HG.o;rw[List.take_of_length_le (lR _)] at h;exact h:aM VR 3 44 wr W.heap.size (fun _=>True) (.slice q l.length s) (l.map (·.val)));have RB2:=qK RB HB.o;have NB2:=qK Q HB.o;clear HQ HG HER;have T:=HC.o;unfold xL at T
   rcases T with ⟨h3,c⟩|⟨h3,c⟩|⟨h3,c⟩|hca
   .obtain⟨x,rfl⟩:=List.length_eq_one_iff.1 c;have G:(n.op==3)=true:=bQ.2 h3;obtain⟨ba,bc,x0,x1,x2,x3,x4,hp,hbl⟩:=tM (k:=0) (HL.o.on iG HBT.o) qs;simp only[Nat.zero_mul,Nat.add_zero,List.getElem_cons_zero] at x0 x1 x2 x3 x4 hp;have a:=HQ9.o 0 qs;obtain⟨⟨u0,u1,u2,u3,u4⟩,_⟩:=dJ RB2.o;obtain⟨⟨v0,v1,v2,v3,v4,v5,v6⟩,_⟩:=bI NB2.o;have zu:=aD RB2.o;by_cases m:x.bag.length=1
    .obtain⟨v,p⟩:=List.length_eq_one_iff.1 m;have HV2:Hid (iL g n [x]=jH v 0):=aA (by rw[uC,iN (fun h=>h a),iP h3,p]);have C:=hp.1;rw[p] at C x0;obtain⟨b2,ai,rfl,ah,V,_⟩:=KH C;obtain⟨M,N,O⟩:=ET C;have ad:=aA V;have Y:[v].length=1:=rfl;rw[Y] at x0;clear C V p m hp a h3 c Y;go_wp2;refine bR (.agg #[.slice none 0 0,.int .i64 v.1,.int .i64 v.2.1,.string v.2.2,.int .i64 0]) ?_;rw[HRES.o,HV2.o];exact lY rfl ad.o oJ (uB HBT.o (Nat.le_succ _))
    .have HV2:Hid (iL g n [x]=jH bD 4):=aA (by
      rw[uC,iN (fun h=>h a),iP h3];split
      .rename_i v p;rw[p] at m;exact absurd rfl m
      .rfl)
     have H:((x.bag.length:Int) != 1)=true:=bne_iff_ne.2 qo;clear hp a h3 c m;go_wp2;refine bR (.agg #[.slice none 0 0,.int .i64 0,.int .i64 0,.string ⟨#[]⟩,.int .i64 4]) ?_;rw[HRES.o,HV2.o];exact lY rfl kA (by unfold bK;decide) (uB HBT.o (Nat.le_succ _))
   .obtain⟨x,rfl⟩:=List.length_eq_one_iff.1 c;have G:(n.op==3)=false:=bN.2 qo;have H:(n.op==4)=true:=bQ.2 h3;obtain⟨ba,bc,x0,x1,x2,x3,x4,hp,hbl⟩:=tM (k:=0) (HL.o.on iG HBT.o) qs;simp only[Nat.zero_mul,Nat.add_zero,List.getElem_cons_zero] at x0 x1 x2 x3 x4 hp;have a:=HQ9.o 0 qs;obtain⟨_,_,_,S⟩:=hp.1.slice;have aa:=aA S;obtain⟨⟨u0,u1,u2,u3,u4⟩,_⟩:=dJ RB2.o;obtain⟨⟨v0,v1,v2,v3,v4,v5,v6⟩,_⟩:=bI NB2.o;have zu:=aD RB2.o;have HV2:Hid (iL g n [x]=jH (2,x.bag.length,ByteArray.empty) 0):=aA (by rw[uC,iN (fun h=>h a),iN qo,iP h3]);clear hp a h3 c S;go_wp2;refine bR (.agg #[.slice none 0 0,.int .i64 2,.int .i64 x.bag.length,.string ⟨#[]⟩,.int .i64 0]) ?_;rw[HRES.o,HV2.o];exact lY rfl ⟨KT,show bK (x.bag.length:Int) by have:=aa.o;unfold bK;omega,show ByteArray.empty.size<=cQ by decide⟩ oJ (uB HBT.o (Nat.le_succ _))
   .obtain⟨x,y,rfl⟩:∃x y,l=[x,y]:=by
     match l,c with
     | [x,y],_=>exact⟨x,y,rfl⟩
    have G:(n.op==3)=false:=bN.2 qo;have H:(n.op==4)=false:=bN.2 qo;have e7:(n.op==5)=true:=bQ.2 h3;obtain⟨ba,bc,x0,x1,x2,x3,x4,hp,hbl⟩:=tM (k:=0) (HL.o.on iG HBT.o) qs;obtain⟨ya,yc,M,N,O,y3,y4,_,_⟩:=tM (k:=1) (HL.o.on iG HBT.o) qs;simp only[Nat.zero_mul,Nat.one_mul,Nat.add_zero,List.getElem_cons_zero,List.getElem_cons_succ] at x0 x1 x2 x3 x4 hp M N O y3 y4;have a:=HQ9.o 0 qs;have Z:=HQ9.o 1 qs;obtain⟨⟨u0,u1,u2,u3,u4⟩,_⟩:=dJ RB2.o;obtain⟨⟨v0,v1,v2,v3,v4,v5,v6⟩,_⟩:=bI NB2.o;have zu:=aD RB2.o;obtain⟨t,K⟩:∃t:Bool,x.bag.any (fun v=>decide (v=y.val))=t:=⟨_,rfl⟩;obtain⟨f,A⟩:∃f:Int,(if t=true then (1:Int) else 0)=f:=⟨_,rfl⟩;have HV2:Hid (iL g n [x,y]=jH (1,f,ByteArray.empty) 0):=aA (by
     rw[DR HEA.o,iN (fun h=>h a),iN (fun h=>h Z),iP h3,K];unfold cH;rw[A])
    have ab:Hid (cS (1,f,ByteArray.empty)):=aA (by rw[<-A];exact nS t);have E:=aA (fun w'=>GJ t f A w');have j:=aA (Vf _ x.bag y.val wr.drew (hp.1.aCT bG ((aJ (ok:=ok') (Below.refl wr.heap.size wr)).trans ⟨rfl,rfl,rfl,lR _,fun _ _ _=>rfl⟩)));unfold aP at E j;unfold dB at j;rw[K] at j;clear hp a Z h3 c K A;go_wp2;refine qL 8 (by kernel_rfl) (by kernel_rfl) ?_;simp only[List.take_succ_cons,List.take_zero,List.drop_succ_cons,List.drop_zero]
    repeat still_step
    refine wpStill_nil ?_;go_wp2_with fail;refine j.o.mono ?_;rintro e w2 ⟨rfl,hb_⟩;have HB2:=aA (aC HBT.o.drew hb_);have F:=aA (aE (show (wr.drew).heap[w.heap.size+1]? =_ from RB2.o) hb_);clear hb_ j x0 x1 x2 x3 x4 M N O y3 y4 u0 u1 u2 u3 u4 v0 v1 v2 v3 v4 v5 v6 zu;obtain⟨⟨u0,u1,u2,u3,u4⟩,_⟩:=dJ F.o;have zu:=aD F.o;go_wp2_with fail;refine(E.o _).mono ?_;rintro e w3 ⟨rfl,hb_⟩;have HB3:=qB HB2 hb_;have R:=qK F hb_;clear hb_ E u0 u1 u2 u3 u4 zu;obtain⟨⟨u0,u1,u2,u3,u4⟩,_⟩:=dJ R.o;have zu:=aD R.o;go_wp2;refine bR (.agg #[.slice none 0 0,.int .i64 1,.int .i64 f,.string ByteArray.empty,.int .i64 0]) ?_;rw[HRES.o,HV2.o];exact lY rfl ab.o oJ (uB HB3.o (Nat.le_succ _))
   .have G:(n.op==3)=false:=bN.2 qo;have H:(n.op==4)=false:=bN.2 qo;have e7:(n.op==5)=false:=bN.2 qo;exact QAB
def Sp(n:No)(l:List It):Prop:=((n.op=1\/n.op=2)/\l=[])\/xL n l
theorem Ph{ok ok':nP}(n:No)(c:oO n)(b:Value)(l:List It)(a:Value)(g:List Gv)(w:World)(d:aH sI w ok' b l)(h:aH jN w ok a g)(hw:Sp n l):Calls prog 270 #[jK n,b,a] w (pD (iL g n l) w):=by
 rcases hw with ⟨h1|h1,e⟩|hw
 .exact Jp n c b l a g w d h h1 e
 .exact Jq n c b l a g w d h h1 e
 by_cases he:xM n l
 .exact Js n c b l a g w d h he
 by_cases f:n.op=12\/n.op=13
 .exact Jt n c b l a g w d h f he (by unfold xL at hw;omega)
 .exact Ju n c b l a g w d h qo he hw
theorem GK{op:Int}{m:List Bool}(h:mO op=some m):m.length=jJ op/\((op=1\/op=2)\/op=3\/op=4\/op=5\/op=11\/(6<=op/\op<=13/\op≠11)):=by
 unfold mO at h;unfold jJ;split at h
 .rename_i h1;injection h with h;subst h;rw[iP h1];exact⟨rfl,.inl h1⟩
 rename_i h1;split at h
 .rename_i h2;injection h with h;subst h;rw[iN h1,iP qo];exact⟨rfl,qo⟩
 rename_i h2;split at h
 .rename_i h3;injection h with h;subst h;rw[iN h1,iN qo];exact⟨rfl,qo⟩
 rename_i h3;split at h
 .rename_i h4;injection h with h;subst h;rw[iN h1,iP qo];exact⟨rfl,qo⟩
 rename_i h4;split at h
 .rename_i h5;injection h with h;subst h;rw[iN h1,iN qo];exact⟨rfl,qo⟩
 .cases h
def tC(r:List No)(st:List It):Prop:=∃a made:List Bool,a.length=st.length/\iK r a=some made
theorem KU{n:No}{r:List No}{st:List It}(h:tC (n::r) st):jJ n.op<=st.length/\Sp n (st.drop (st.length - jJ n.op))/\∀x,tC r (st.take (st.length - jJ n.op)++[x]):=by
 obtain⟨d,made,f,b⟩:=h;unfold iK at b
 cases he:lA d n with
 |none=>rw[he] at b;cases b
 |some t2=>
  rw[he] at b;dsimp only at b;unfold lA at he
  cases hw:mO n.op with
  |none=>rw[hw] at he;cases he
  |some m=>
   rw[hw] at he;dsimp only at he;obtain⟨ha,a⟩:=GK hw;split at he
   .rename_i e;injection he with he;have h1:jJ n.op<=st.length:=qo;have c:(st.drop (st.length - jJ n.op)).length=jJ n.op:=by rw[List.length_drop];omega
    refine⟨h1,?_,fun x=>⟨t2,made,?_,b⟩⟩
    .rcases a with a|a
     .have h0:jJ n.op=0:=by unfold jJ;rw[iP a]
      exact .inl ⟨a,List.eq_nil_of_length_eq_zero qo⟩
     .refine .inr ?_;unfold xL;rw[c];unfold jJ
      rcases a with h|h|h|h|h
      .exact .inl ⟨h,by rw[iN qo,iP qo]⟩
      .exact .inr (.inl ⟨h,by rw[iN qo,iP qo]⟩)
      .exact .inr (.inr (.inl ⟨h,by rw[iN qo,iN qo]⟩))
      .exact .inr (.inr (.inr (.inl ⟨h,by rw[iN qo,iP qo]⟩)))
      .exact .inr (.inr (.inr (.inr ⟨h.1,h.2.1,h.2.2,by rw[iN qo,iN qo]⟩)))
    .rw[<-he,aL,aL,List.length_take,List.length_take];simp only[List.length_singleton];omega
   .cases he
theorem Pj{l:List No}(h:lB l=0)(d:l≠[]):tC l []/\∀b made,iK l b=some made->b=[]->made=[false]:=by
 unfold lB at h;split at h
 .cases h
 cases a:iK l [] with
 |none=>rw[a] at h;cases h
 |some made=>
  rw[a] at h;dsimp only at h;split at h
  .cases h
  rename_i c;refine⟨⟨[],made,rfl,a⟩,fun b m2 hm f=> ?_⟩;subst f;rw[a] at hm;injection hm with hm;subst hm;have hp:0<l.length:=List.length_pos_iff.2 d;by_cases e:made=[false]
  .exact e
  .exact absurd ⟨hp,e⟩ c
theorem KV:∀(l:List No) (a made:List Bool),iK l a=some made->∀(g:List Gv) (st:List It),st.length=a.length->(zE g l st).length=made.length
 | [],a,made,h,g,st,hl=>by
   injection h with h;subst h;exact hl
 |n::r,a,made,h,g,st,hl=>by
  have c:=KU (n:=n) (r:=r) (st:=st) ⟨a,made,hl.symm,h⟩;unfold iK at h
  cases he:lA a n with
  |none=>rw[he] at h;cases h
  |some t2=>
   rw[he] at h;dsimp only at h;unfold zE;refine KV r t2 made h g _ ?_;unfold lA at he
   cases hw:mO n.op with
   |none=>rw[hw] at he;cases he
   |some m=>
    rw[hw] at he;dsimp only at he;obtain⟨ha,_⟩:=GK hw;split at he
    .rename_i b;injection he with he;rw[<-he,aL,aL,List.length_take,List.length_take];simp only[List.length_singleton];omega
    .cases he
theorem QW{g:List Gv}{l:List No}{st R:List It}{k:Nat}(a:k<l.length)(h:zE g (l.drop k) st=R):zE g (l.drop (k+1)) (st.take (st.length - jJ l[k].op)++[iL g l[k] (st.drop (st.length - jJ l[k].op))])=R:=by
 rw[List.drop_eq_getElem_cons a] at h;exact h
theorem Pk{l:List No}{st:List It}{k:Nat}(a:k<l.length)(h:tC (l.drop k) st):tC (l[k] ::l.drop (k+1)) st:=by
 rw[List.drop_eq_getElem_cons a] at h;exact h
theorem QAk{p:Prop}(h:p:=by
 clear HND HT HGG;go_wp2;rw[<-HWW.o,<-HBB.o];go_region_held3 (fun w'=>w'.cell? ⟨bn,0,none⟩=some (.int .i64 n.op)/\w'.cell? ⟨bn,1,none⟩=some (.int .i64 n.val.1)/\w'.cell? ⟨bn,2,none⟩=some (.int .i64 n.val.2.1)/\w'.cell? ⟨bn,3,none⟩=some (.string n.val.2.2)/\w'.cell? ⟨bn,4,none⟩=some (.int .i64 n.aDa.cat)/\w'.cell? ⟨bn,5,none⟩=some (.string n.aDa.name)/\w'.cell? ⟨bn,6,none⟩=some (.bool n.aDa.aDi))
  (first|assumption |exact HBK.o _ (aE HN9.o (aB _ _)))
  ((first
    |(go_at_call 270;refine(HND2.o _ (Below.refl _ _).drew).mono ?_;rintro e w9 ⟨va9,vc9,rfl,hit,hb9⟩;have HN9:=aA (aE (show W.drew.heap[bn]? =_ from HBN.o) hb9);have hS9:=HBK.o _ HN9.o;have HB9:=aA (aC (Below.refl W.heap.size W).drew hb9);have HI9:=aA hit;clear hit hb9)
    |(refine iV (base:=w1.heap.size) Yg iG rfl (.tmp 33) (.tmp 40) rfl _ (st.take q) rfl (HCUT.o _ (aC HB9.o (aB _ _))) w9.heap.size 1 _ _ _ nv rfl (aK w9 _ _ rfl) ⟨_,rfl,HY.o _ _ _ HI9.o⟩ (by rw[HLQ.o];have:=HST.o;have:=HM.o;omega) qe (lT HSZ.o (lT HB9.o.size (by rw[World.size_alloc];exact Nat.le_succ _))) ?_;intro l' hl' A' c2 w10 hG hgr hat';have HG10:=aA hG;have HB10:=aA ((HCUT.o _ (aC HB9.o (aB w9 (.cells #[.slice va9 nv.bag.length vc9,.int .i64 nv.val.1,.int .i64 nv.val.2.1,.string nv.val.2.2,.int .i64 nv.err] 351)))).below (aC HBW.o (aC HB9.o (aB w9 _))) hgr (lR _) (lT HSZ.o (lT HB9.o.size (by rw[World.size_alloc];exact Nat.le_succ _))));have HL10:=aA hl'.o;have hS10:=HBK.o w10 ((hgr.block bn (lL (aD HN9.o) (by rw[World.size_alloc];exact Nat.le_succ _)) HNG.o).trans (aE HN9.o (aB _ _)));clear hG hgr hat' hl')))
 have e10:l'.length=q+1:=by rw[HL10.o,aL,HLQ.o];rfl
 rw[e10] at HG10 ⊢;go_wp2;go_roundw
 case rel=>exact⟨k+1,q+1,A',c2,l',qo,e10.symm,qo,by go_num,rfl,aA (by rw[HL10.o];exact HR3.o),aA (by rw[HL10.o];exact HS3.o nv),HG10,HB10⟩
 case measure=>simp[intOf];omega):p:=h
theorem aM.tail{α:Type}{R:Rep α}{s:Nat}{e:TypeId}{w:World}{base:Nat}{ok:nP}(F:Firm R s){g n c:Nat}{l:List α}(h:aM R s e w base ok (.slice (some ⟨g,0,none⟩) n c) l)(y:l.length<=1000000)(m:Nat)(hm:m<=l.length)(k:Nat):aH R w (fun _=>True) (.slice (some ⟨g,m * s,none⟩) (l.length - m) k) (l.drop m):=by
 obtain⟨cs,h1,h2⟩:=h;obtain⟨a,c2,d,_,h3,_⟩:=lK h1;injection d with d _ _;subst d;refine⟨_,k,cs.drop (m * s),by rw[List.length_drop],?_,((h2.split (fun _ _ j=>F.len j) m hm).2).mono (fun r x j=>F.more j fun _ _=>trivial),by rw[List.length_drop];omega⟩;intro v;obtain⟨b,off,f,z,t⟩:=h3 (by rintro rfl;simp at v);injection f with f;injection f with p q _;subst p q;refine⟨g,m * s,rfl,trivial,fun i x o=> ?_⟩;rw[List.getElem?_drop] at o;have:=t _ _ o;rwa [Nat.zero_add] at this
theorem Yg:dV prog 369 351 5 64:=fP (z:= .agg #[.slice none 0 0,.int .i64 0,.int .i64 0,.string ByteArray.empty,.int .i64 0]) underlying369 (by kernel_rfl) rfl qe
def aAa:List It->V3×Int
 |x::_=>(x.val,x.err)
 | []=>(bD,1)
def Ab(r:V3×Int)(w:World)(e:Ending)(w':World):Prop:=e=.returned (.tuple #[dB r.1,.int .i64 r.2])/\cS r.1/\Below w.heap.size w w'
theorem Ea{ok ok':nP}(vl:Value)(l:List No)(vg:Value)(g:List Gv)(w:World)(N:aH JG w ok' vl l)(h:aH jN w ok vg g):Calls prog 249 #[vl,vg] w (Ab (nU g l) w):=by
 obtain⟨E,gc,rfl,_⟩:=h.slice;obtain⟨la,lc,rfl,be⟩:=N.slice;obtain⟨HG,HL,P,s⟩:=dD h N (aB w (.cells fU 44)) (aK w (.cells fU 44) _ rfl);have y:=aA (GH _ l _ (N.on dQ P.o));unfold aP at y;clear h N;by_cases t:l=[]
 .subst t;have C:Hid (nU g []=(bD,1)):=aA (iP (.inl rfl));clear y;go_enter func249,ntmps249;go_wp2;refine bR (.tuple #[.agg #[.int .i64 0,.int .i64 0,.string ⟨#[]⟩],.int .i64 1]) ?_;rw[C.o];exact⟨rfl,kA,aB _ _⟩
 have hz:((l.length:Int)==0)=false:=bN.2 (fun h=>t (List.eq_nil_of_length_eq_zero qo));by_cases he:lB l=0
 case neg=>
  have C:Hid (nU g l=(bD,1)):=aA (iP (.inr he));have d:(lB l != 0)=true:=bne_iff_ne.2 he;generalize lB l=e0 at *;clear t he;go_enter func249,ntmps249;go_wp2_with fail;refine y.o.mono ?_;rintro e w1 ⟨rfl,z⟩;have B:=qB P z;replace s:=qK s z;obtain⟨⟨ab,ad,ae⟩,_⟩:=cD s.o;have aq:=aD s.o;clear z y;go_wp2;refine bR (.tuple #[.agg #[.int .i64 0,.int .i64 0,.string ⟨#[]⟩],.int .i64 1]) ?_;rw[C.o];exact⟨rfl,kA,((B.o.setCell (lR _) _).setCell (lR _) _).setCell (lR _) _⟩
 obtain⟨R,M⟩:=xE (zE g l []);have C:Hid (nU g l=aAa R):=aA (by unfold nU;rw[iN (fun h=>h.elim t (fun h=>h he)),M];rfl);have ah:Hid (zE g (l.drop 0) []=R):=aA (by rw[List.drop_zero];exact M.symm);obtain⟨H,an⟩:=Pj he t;have HST:Hid (tC (l.drop 0) []):=aA (by rw[List.drop_zero];exact H);have ag:Hid (R.length=1):=aA (by
  obtain⟨aa,made,h1,h2⟩:=H;have ht:aa=[]:=List.eq_nil_of_length_eq_zero h1;have:=an aa made h2 ht;rw[M,KV l aa made h2 g [] h1.symm,this];rfl)
 rw[he] at y;clear he t M H an;go_enter func249,ntmps249;go_wp2_with fail;refine y.o.mono ?_;rintro e w1 ⟨rfl,z⟩;have B:=qB P z;replace s:=qK s z;obtain⟨⟨ab,ad,ae⟩,_⟩:=cD s.o;have aq:=aD s.o;clear z y ab ad ae aq;go_wp2;go_loopw [6,21] (fun v i wr=>∃(k m:Nat) (L:oD) (j:Nat) (st:List It),k<=l.length/\m=st.length/\m<=k/\i=.int .i64 k/\v=.slice L m j/\Hid (zE g (l.drop k) st=R)/\Hid (tC (l.drop k) st)/\Hid (aM sI 5 351 wr w1.heap.size (fun _=>True) (.slice L m j) st)/\Hid (Below w1.heap.size w1 wr)) (fun _ i _=>l.length - (intOf i).toNat)
 case atStart=>exact⟨0,0,none,0,[],qo,rfl,qo,rfl,rfl,ah,HST,aA aM.nil,aA (Below.refl _ _)⟩
 case round=>
  clear ah HST;obtain⟨k,m,L,j,st,hk,hm,bf,rfl,rfl,K,T,A,I⟩:=hrel;by_cases V:k<l.length
  .have ay:(k:Int)<(l.length:Int):=qo;obtain⟨b,off,r,rfl,_,av,⟨rfl,ak⟩,hc⟩:=aH.at dQ (HL.o.on dQ (aC B.o I.o)) V qe;obtain⟨O,x1,x2,x3,x4,x5,x6⟩:=CD hc;rw[Nat.add_zero] at O;obtain⟨h1,h2,h3⟩:=KU (Pk V T.o);have Z:=QW V K.o;have au:=aA ak;clear hc K T ak;rw[<-hm] at h1 h2 h3 Z;have S:=aA (fun w=>Jm l[k].op w);have HND:=aA (fun (a7:nP) v9 (w9:World) (a6:aH sI w9 a7 v9 (st.drop (m - jJ l[k].op))) (ax:aH jN w9 ok (.slice E g.length gc) g)=>Ph l[k] au.o v9 _ _ g w9 a6 ax h2);have HS3:=aA h3;have HR3:=aA Z;clear h2 h3 Z;generalize t:l[k]=n at *;clear t;obtain⟨q,X⟩:=xE (m - jJ n.op);rw[<-X] at HND HS3 HR3;have bg:q<=m:=qo;obtain⟨D,aj⟩:∃D,jJ n.op=D:=⟨_,rfl⟩;rw[aj] at S X h1;have ew:IntKind.i64.wrap ((m:Int) - (D:Int))=(q:Int):=by rw[IntWalk.i64_in _ qo];omega
   have ai:wrap64 ((m:Int) - (D:Int))=(q:Int):=by rw[IntWalk.wrap64_in _ qo];omega
   have HM:=aA hm;clear aj hm X;obtain⟨nv,ao⟩:∃nv,iL g n (st.drop q)=nv:=⟨_,rfl⟩;rw[ao] at HND HR3;unfold pD jK at HND;clear ao;go_wp2_with fail;refine(S.o _).mono ?_;rintro e w2 ⟨rfl,rfl⟩;obtain⟨a1,bd,bb⟩:=A.o.place;have q0:(0:Int)<=(q:Int):=qo;have q1:(q:Int)<=(m:Int):=qo;have q2:(q:Int)<=(j:Int):=qA HM.o;obtain⟨W,F⟩:=xE (wr.alloc (.cells (iO n) 301));obtain⟨bn,U⟩:=xE wr.heap.size;have HBW:=aA (F▸aC I.o (aB wr _):Below w1.heap.size w1 W);have HBN:=aA (F▸U▸aK wr (.cells (iO n) 301) _ rfl:W.heap[bn]? =some (.cells (iO n) 301 (0,0)));have J:=aA (F▸A.o.on iG (aB wr _):aM sI 5 351 W w1.heap.size (fun _=>True) (.slice L m j) st);have HWW:=aA F;have HBB:=aA U;have HGG:Hid (∀w',Below W.heap.size W w'->aH jN w' ok (.slice E g.length gc) g):=aA (fun w' a=>(HG.o.on cA (aC B.o (aC HBW.o a))));have HSZ:=aA HBW.o.size;have HBK:Hid (∀w':World,w'.heap[bn]? =some (.cells (iO n) 301 (0,0))->(w'.cell? ⟨bn,0,none⟩=some (.int .i64 n.op)/\w'.cell? ⟨bn,1,none⟩=some (.int .i64 n.val.1)/\w'.cell? ⟨bn,2,none⟩=some (.int .i64 n.val.2.1)/\w'.cell? ⟨bn,3,none⟩=some (.string n.val.2.2)/\w'.cell? ⟨bn,4,none⟩=some (.int .i64 n.aDa.cat)/\w'.cell? ⟨bn,5,none⟩=some (.string n.aDa.name)/\w'.cell? ⟨bn,6,none⟩=some (.bool n.aDa.aDi))):=aA (fun w' h=>by
    obtain⟨⟨h0,h1,h2,h3,h4,h5,h6⟩,_⟩:=bI h;exact⟨h0,h1,h2,h3,h4,h5,h6⟩)
   have a8:=HBK.o W.drew HBN.o;have HST:=aA (show st.length<=1000000 by have:=HM.o;omega);have HLQ:Hid ((st.take q).length=q):=aA (by rw[List.length_take];have:=HM.o;omega);clear F U S O x1 x2 x3 x4 x5 x6
   rcases a1 with ⟨rfl,rfl⟩|⟨gs,rfl⟩
   .obtain rfl:st=[]:=List.eq_nil_of_length_eq_zero qo;have az:m=0:=HM.o;subst az;obtain rfl:q=0:=qo;obtain rfl:D=0:=qo;replace ew:IntKind.i64.wrap ((0:Int) - 0)=0:=ew;replace ai:wrap64 ((0:Int) - 0)=0:=ai;have HCUT:Hid (∀w',Below W.heap.size W w'->aM sI 5 351 w' w1.heap.size (fun _=>True) (.slice none 0 0) (([]:List It).take 0)):=aA (fun w' a=>aM.nil);have HT:Hid (∀w',Below W.heap.size W w'->aH sI w' (fun _=>True) (.slice none 0 0) (([]:List It).drop 0)):=aA (fun w' a=>aH.nil);have HND2:Hid (∀w',Below W.heap.size W w'->Calls prog 270 #[.agg #[.int .i64 n.op,.int .i64 n.val.1,.int .i64 n.val.2.1,.string n.val.2.2,.int .i64 n.aDa.cat,.string n.aDa.name,.bool n.aDa.aDi],.slice none 0 0,.slice E g.length gc] w' (fun e p=>∃f vc,e=.returned (.agg #[.slice f nv.bag.length vc,.int .i64 nv.val.1,.int .i64 nv.val.2.1,.string nv.val.2.2,.int .i64 nv.err])/\BL p (fun b=>W.heap.size<=b) nv (.slice f nv.bag.length vc)/\Below w'.heap.size w' p)):=aA (fun w' a=>(HND.o _ _ w' (HT.o w' a) (HGG.o w' a)).mono (fun e p ⟨vb,he,h1,h2⟩=>by
     obtain⟨f,vc,rfl,_⟩:=h1.1.slice;exact⟨f,vc,he,⟨h1.1.more bG (fun b G=>lT a.size G),h1.2⟩,h2⟩))
    have HNG:Hid (some bn≠(Value.slice none 0 0).ownBlock):=aA (fun e=>by
     have c:some bn=none:=e
     cases c)
    have HY:Hid (∀w9 vb o,BL w9 (fun b=>W.heap.size<=b) nv vb->BL (w9.alloc o) (fun b=>True/\b<(w9.alloc o).heap.size/\some b≠(Value.slice none 0 0).ownBlock) nv vb):=aA (fun w9 vb o h=>⟨((h.1.inb bG).on bG (aB w9 o)).more bG (fun b a=>⟨trivial,by rw[World.size_alloc];have:=a.2;omega,fun e=>by
     have c:some b=none:=e
     cases c⟩),h.2⟩)
    clear HND HT HGG;go_wp2;rw[<-HWW.o,<-HBB.o];go_region_held3 (fun w'=>w'.cell? ⟨bn,0,none⟩=some (.int .i64 n.op)/\w'.cell? ⟨bn,1,none⟩=some (.int .i64 n.val.1)/\w'.cell? ⟨bn,2,none⟩=some (.int .i64 n.val.2.1)/\w'.cell? ⟨bn,3,none⟩=some (.string n.val.2.2)/\w'.cell? ⟨bn,4,none⟩=some (.int .i64 n.aDa.cat)/\w'.cell? ⟨bn,5,none⟩=some (.string n.aDa.name)/\w'.cell? ⟨bn,6,none⟩=some (.bool n.aDa.aDi))
     (first|assumption |exact HBK.o _ (aE HN9.o (aB _ _)))
     ((first
       |(go_at_call 270;refine(HND2.o _ (Below.refl _ _).drew).mono ?_;rintro e w9 ⟨va9,vc9,rfl,hit,hb9⟩;have HN9:=aA (aE (show W.drew.heap[bn]? =_ from HBN.o) hb9);have hS9:=HBK.o _ HN9.o;have HB9:=aA (aC (Below.refl W.heap.size W).drew hb9);have HI9:=aA hit;clear hit hb9)
       |(refine iV (base:=w1.heap.size) Yg iG rfl (.tmp 33) (.tmp 40) rfl _ (([]:List It).take 0) rfl (HCUT.o _ (aC HB9.o (aB _ _))) w9.heap.size 1 _ _ _ nv rfl (aK w9 _ _ rfl) ⟨_,rfl,HY.o _ _ _ HI9.o⟩ (by rw[HLQ.o];have:=HST.o;have:=HM.o;omega) qe (lT HSZ.o (lT HB9.o.size (by rw[World.size_alloc];exact Nat.le_succ _))) ?_;intro l' hl' A' c2 w10 hG hgr hat';have HG10:=aA hG;have HB10:=aA ((HCUT.o _ (aC HB9.o (aB w9 (.cells #[.slice va9 nv.bag.length vc9,.int .i64 nv.val.1,.int .i64 nv.val.2.1,.string nv.val.2.2,.int .i64 nv.err] 351)))).below (aC HBW.o (aC HB9.o (aB w9 _))) hgr (lR _) (lT HSZ.o (lT HB9.o.size (by rw[World.size_alloc];exact Nat.le_succ _))));have HL10:=aA hl'.o;have hS10:=HBK.o w10 ((hgr.block bn (lL (aD HN9.o) (by rw[World.size_alloc];exact Nat.le_succ _)) HNG.o).trans (aE HN9.o (aB _ _)));clear hG hgr hat' hl')))
    have e10:l'.length=0+1:=by rw[HL10.o,aL,HLQ.o];rfl
    rw[e10] at HG10 ⊢;go_wp2;go_roundw
    case rel=>exact⟨k+1,0+1,A',c2,l',qo,e10.symm,qo,by go_num,rfl,aA (by rw[HL10.o];exact HR3.o),aA (by rw[HL10.o];exact HS3.o nv),HG10,HB10⟩
    case measure=>simp[intOf];omega
   .have HCUT:Hid (∀w',Below W.heap.size W w'->aM sI 5 351 w' w1.heap.size (fun _=>True) (.slice (some ⟨gs,0,none⟩) q j) (st.take q)):=aA (fun w' a=>(J.o.cut iG q (qA HM.o)).on iG a);by_cases aw:j=q
    .obtain rfl:q=j:=aw.symm;obtain rfl:q=m:=qA HM.o;have HT:Hid (∀w',Below W.heap.size W w'->aH sI w' (fun _=>True) (.slice (some ⟨gs,0,none⟩) 0 0) (st.drop q)):=aA (fun w' a=>by rw[List.drop_of_length_le (qA HM.o)];exact aH.nil);have HND2:Hid (∀w',Below W.heap.size W w'->Calls prog 270 #[.agg #[.int .i64 n.op,.int .i64 n.val.1,.int .i64 n.val.2.1,.string n.val.2.2,.int .i64 n.aDa.cat,.string n.aDa.name,.bool n.aDa.aDi],.slice (some ⟨gs,0,none⟩) 0 0,.slice E g.length gc] w' (fun e p=>∃f vc,e=.returned (.agg #[.slice f nv.bag.length vc,.int .i64 nv.val.1,.int .i64 nv.val.2.1,.string nv.val.2.2,.int .i64 nv.err])/\BL p (fun b=>W.heap.size<=b) nv (.slice f nv.bag.length vc)/\Below w'.heap.size w' p)):=aA (fun w' a=>(HND.o _ _ w' (HT.o w' a) (HGG.o w' a)).mono (fun e p ⟨vb,he,h1,h2⟩=>by
      obtain⟨f,vc,rfl,_⟩:=h1.1.slice;exact⟨f,vc,he,⟨h1.1.more bG (fun b G=>lT a.size G),h1.2⟩,h2⟩))
     have Q:=aA (J.o.lt gs rfl);have HNG:Hid (some bn≠(Value.slice (some ⟨gs,0,none⟩) q q).ownBlock):=aA (fun e=>by
      have c:some bn=some gs:=e;injection c with c;have h1:=(A.o.lt gs rfl).2;have h2:=HBB.o;omega)
     have HY:Hid (∀w9 vb o,BL w9 (fun b=>W.heap.size<=b) nv vb->BL (w9.alloc o) (fun b=>True/\b<(w9.alloc o).heap.size/\some b≠(Value.slice (some ⟨gs,0,none⟩) q q).ownBlock) nv vb):=aA (fun w9 vb o h=>⟨((h.1.inb bG).on bG (aB w9 o)).more bG (fun b a=>⟨trivial,by rw[World.size_alloc];have:=a.2;omega,fun e=>by
      have c:some b=some gs:=e;injection c with c;have:=a.1;have:=Q.o.2;omega⟩),h.2⟩)
     exact QAk
    .have HT:Hid (∀w',Below W.heap.size W w'->aH sI w' (fun _=>True) (.slice (some ⟨gs,q * 5,none⟩) (m - q) (j - q)) (st.drop q)):=aA (fun w' a=>by have:=(J.o.on iG a).tail iG HST.o q (qA HM.o) (j - q);rwa [<-HM.o] at this);have HND2:Hid (∀w',Below W.heap.size W w'->Calls prog 270 #[.agg #[.int .i64 n.op,.int .i64 n.val.1,.int .i64 n.val.2.1,.string n.val.2.2,.int .i64 n.aDa.cat,.string n.aDa.name,.bool n.aDa.aDi],.slice (some ⟨gs,q * 5,none⟩) (m - q) (j - q),.slice E g.length gc] w' (fun e p=>∃f vc,e=.returned (.agg #[.slice f nv.bag.length vc,.int .i64 nv.val.1,.int .i64 nv.val.2.1,.string nv.val.2.2,.int .i64 nv.err])/\BL p (fun b=>W.heap.size<=b) nv (.slice f nv.bag.length vc)/\Below w'.heap.size w' p)):=aA (fun w' a=>(HND.o _ _ w' (HT.o w' a) (HGG.o w' a)).mono (fun e p ⟨vb,he,h1,h2⟩=>by
      obtain⟨f,vc,rfl,_⟩:=h1.1.slice;exact⟨f,vc,he,⟨h1.1.more bG (fun b G=>lT a.size G),h1.2⟩,h2⟩))
     have Q:=aA (J.o.lt gs rfl);have HNG:Hid (some bn≠(Value.slice (some ⟨gs,0,none⟩) q j).ownBlock):=aA (fun e=>by
      have c:some bn=some gs:=e;injection c with c;have h1:=(A.o.lt gs rfl).2;have h2:=HBB.o;omega)
     have HY:Hid (∀w9 vb o,BL w9 (fun b=>W.heap.size<=b) nv vb->BL (w9.alloc o) (fun b=>True/\b<(w9.alloc o).heap.size/\some b≠(Value.slice (some ⟨gs,0,none⟩) q j).ownBlock) nv vb):=aA (fun w9 vb o h=>⟨((h.1.inb bG).on bG (aB w9 o)).more bG (fun b a=>⟨trivial,by rw[World.size_alloc];have:=a.2;omega,fun e=>by
      have c:some b=some gs:=e;injection c with c;have:=a.1;have:=Q.o.2;omega⟩),h.2⟩)
     exact QAk
  .have ay:¬(k:Int)<(l.length:Int):=qo;obtain rfl:k=l.length:=qo;have H:st=R:=by have:=K.o;rwa [List.drop_length] at this
   subst H;have al:=ag.o;obtain⟨x,rfl⟩:=List.length_eq_one_iff.1 al;obtain rfl:m=1:=hm;have Y:=A.o.sl qs (fun _=>True) (fun _ _ _=>trivial) (fun _ _ _=>trivial) iG;obtain⟨gs,go,rfl⟩:=AP Y qs;obtain⟨ba,bc,O,x1,x2,x3,x4,hp,av⟩:=tM (k:=0) Y qs;simp only[Nat.zero_mul,Nat.add_zero,List.getElem_cons_zero] at O x1 x2 x3 x4 hp;obtain⟨HP,af,B1⟩:=aY hp (aC B.o I.o) (aE s.o I.o);obtain⟨⟨u0,u1,u2⟩,_⟩:=cD B1.o;have zu:=aD B1.o;clear Y hp al K T A ag;go_wp2;go_region
   all_goals
    go_wp2;refine bR (.tuple #[.agg #[.int .i64 x.val.1,.int .i64 x.val.2.1,.string x.val.2.2],.int .i64 x.err]) ?_;rw[C.o];refine⟨rfl,HP.o.2.1,?_⟩
    first
     |exact(((af.o.setCell (lR _) _).setCell (lR _) _).setCell (lR _) _).drew
     |exact((af.o.drew.setCell (lR _) _).setCell (lR _) _).setCell (lR _) _
end Go.Proofs.YtgoanbpcdhmfkaaGreatDoor
