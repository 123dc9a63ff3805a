/- Lemmas. -/
import Derived.Test.YtlfngkelmbdehaaGreatDoorMbo
import Derived.Test.YtlfngkelmbdehaaGreatDoorMbd
namespace Go.Proofs.YtlfngkelmbdehaaGreatDoor
open Go.RowKit
set_option linter.unusedVariables false
set_option linter.unusedSimpArgs false
set_option maxHeartbeats 16000000
open _root_.Go.Proofs.Tryz
set_option maxRecDepth 20000
theorem Kx{p:Prop}(h:p:=by
 go_wp2;go_ret;exact⟨by rw[HR.o];rfl,Below.refl _ _⟩):p:=h
structure Gl (w:World):Prop where
 aDC:gU w
 len:∃m,w.cell? ⟨0,0,none⟩=some (.int .i64 m)
 tab:Lib.TabIs prog w "internal/strconv.uint64pow10" .u64 Lib.pow10Tab
theorem VZ:prog.globalNamed "internal/strconv.uint64pow10"=some 3:=by kernel_rfl
theorem Gl.lt{w:World}(h:Gl w):3<w.heap.size:=by
 have h1:=h.tab;unfold Lib.TabIs World.var? at h1;rw[VZ] at h1
 rcases Nat.lt_or_ge 3 w.heap.size with h2|h2
 .exact h2
 .simp[Array.getElem?_eq_none h2] at h1
theorem Gl.stay{w w':World}{q:nP}(h:Gl w)(c:aN q w w')(a:∀b,b<6->q b):Gl w':={
 aDC:=h.aDC.stay c (a 2 qe)
 len:=by
  obtain⟨m,hm⟩:=h.len;exact⟨m,c.cell (p:=⟨0,0,none⟩) (a 0 qe) hm⟩
 tab:=by
  have h1:=h.tab;unfold Lib.TabIs World.var? at *;rw[VZ] at *;simp only[Option.bind_some] at *;rw[c.block 3 h.lt (a 3 qe)];exact h1}
theorem Gl.on{w w':World}(h:Gl w)(a:Below w.heap.size w w'):Gl w':=h.stay (aJ (ok:=fun _=>True) a) (fun _ _=>trivial)
theorem GW:∀(l:lU),(0<=Lib.indexByte l 32->cN l=(l.take (Lib.indexByte l 32).toNat,l.drop ((Lib.indexByte l 32).toNat+1)))/\(Lib.indexByte l 32<0->cN l=(l,[]))
 | []=>⟨fun h=>by simp[Lib.indexByte] at h,fun _=>rfl⟩
 |b::l=>by
  have d:=GW l;have i:=Lib.indexByte_ge l 32;by_cases a:b=32
  .subst a;refine⟨fun _=>rfl,fun h=>by simp[Lib.indexByte] at h⟩
  .have c:b.toNat≠32:=fun e=>a (UInt8.toNat_inj.1 e)
   have f:cN (b::l)=(b::(cN l).1,(cN l).2):=by
    unfold cN;rw[List.takeWhile_cons_of_pos (by simpa using c),List.dropWhile_cons_of_pos (by simpa using c)]
   have g:Lib.indexByte (b::l) 32=if Lib.indexByte l 32== -1 then -1 else Lib.indexByte l 32+1:=by
    rw[Lib.indexByte,iN (by simpa using a)]
   rw[f,g];by_cases h1:Lib.indexByte l 32= -1
   .rw[iP (by simpa using h1)];refine⟨fun h=>absurd h qe,fun _=> ?_⟩;rw[d.2 qo]
   .rw[iN (by simpa using h1)];refine⟨fun _=> ?_,fun h=>by omega⟩;rw[d.1 qo];have e:(Lib.indexByte l 32+1).toNat=(Lib.indexByte l 32).toNat+1:=qo;rw[e];rfl
theorem Ky(l:lU):(Lib.cut l [32]).1=(cN l).1/\(Lib.cut l [32]).2.1=(cN l).2:=by
 have h:=GW l;unfold Lib.cut;rw[Lib.index_one];split
 .rename_i h0;rw[h.1 h0];exact⟨rfl,rfl⟩
 .rename_i h0;rw[h.2 qo];exact⟨rfl,rfl⟩
theorem qR(s:bY)(c:s.size<=100000)(w:World)(b:Gl w):Calls prog 14 #[.string s] w (rP (.string (bs (cN s.data.toList).1)) (.string (bs (cN s.data.toList).2)) w):=by
 obtain⟨m,hm⟩:=b.len;have a:=aA (strings_Cut s ⟨#[32]⟩ m w qo hm);have h:=Ky s.data.toList;rw[show (⟨#[32]⟩:bY).data.toList=[32] from rfl,h.1,h.2] at a;unfold rP;clear b hm h;go_enter func14,ntmps14;go_wp2_with fail;refine a.o.mono ?_;rintro e w1 ⟨rfl,n,rfl⟩;go_wp2;go_ret2
 exact⟨rfl,fX (Below.refl _ _) ⟨_,rfl⟩⟩
theorem FD(s:bY):bs s.data.toList=s:=by unfold bs;rw[Array.toArray_toList]
theorem LO:xM++[str "tick"]=[cJ (1:Nat),cJ (2:Nat),cJ (3:Nat),cJ (4:Nat),cJ (5:Nat),cJ (6:Nat),cJ (7:Nat),cJ (8:Nat)]:=by kernel_rfl
theorem Qh{s:bY}{k:Nat}(h1:1<=k)(h8:k<=8)(e:∀j:Nat,1<=j->j<k->cJ j≠s)(he:cJ k=s):oG s.data.toList=k:=by
 unfold oG;rw[LO,FD];have f:k=1\/k=2\/k=3\/k=4\/k=5\/k=6\/k=7\/k=8:=qo;have c:∀j:Nat,1<=j->j<k->decide (cJ j=s)=false:=fun j a b=>dF (e j a b)
 have d:decide (cJ k=s)=true:=dX he;clear he e
 rcases f with rfl|rfl|rfl|rfl|rfl|rfl|rfl|rfl
 .simp only[List.findIdx_cons,d];rfl
 .simp only[List.findIdx_cons,d,c 1 qe qe];rfl
 .simp only[List.findIdx_cons,d,c 1 qe qe,c 2 qe qe];rfl
 .simp only[List.findIdx_cons,d,c 1 qe qe,c 2 qe qe,c 3 qe qe];rfl
 .simp only[List.findIdx_cons,d,c 1 qe qe,c 2 qe qe,c 3 qe qe,c 4 qe qe];rfl
 .simp only[List.findIdx_cons,d,c 1 qe qe,c 2 qe qe,c 3 qe qe,c 4 qe qe,c 5 qe qe];rfl
 .simp only[List.findIdx_cons,d,c 1 qe qe,c 2 qe qe,c 3 qe qe,c 4 qe qe,c 5 qe qe,c 6 qe qe];rfl
 .simp only[List.findIdx_cons,d,c 1 qe qe,c 2 qe qe,c 3 qe qe,c 4 qe qe,c 5 qe qe,c 6 qe qe,c 7 qe qe];rfl
theorem Qi{s:bY}(d:∀j:Nat,1<=j->j<9->cJ j≠s):oG s.data.toList=0:=by
 unfold oG;rw[LO,FD];have c:∀j:Nat,1<=j->j<9->decide (cJ j=s)=false:=fun j a b=>dF (d j a b)
 simp only[List.findIdx_cons,c 1 qe qe,c 2 qe qe,c 3 qe qe,c 4 qe qe,c 5 qe qe,c 6 qe qe,c 7 qe qe,c 8 qe qe];rfl
theorem Qj(s:bY)(w:World):Calls prog 16 #[.string s] w (aP (.int .i64 (oG s.data.toList)) w):=by
 obtain⟨R,c⟩:=xE (oG s.data.toList);have r:=aA (fun (k:Nat) h1 h8 m he=>c.trans (Qh (s:=s) (k:=k) h1 h8 m he));have t:=aA (fun m=>c.trans (Qi (s:=s) m));have q:=aA (fun k w=>zT k w);rw[<-c];unfold aP at *;clear c;go_enter func16,ntmps16;go_wp2;go_loopw [3] (fun i wr=>∃(k:Nat),1<=k/\k<=9/\i=.int .i64 k/\Hid (∀j:Nat,1<=j->j<k->cJ j≠s)/\Hid (Below w.heap.size w wr)) (fun i _=>9 - (intOf i).toNat)
 case atStart=>exact⟨1,qo,qo,rfl,aA (fun j a b=>by omega),aA (Below.refl _ _)⟩
 case round=>
  obtain⟨k,h1,h9,rfl,f,n⟩:=hrel;by_cases x:k<=8
  .have y:(k:Int)<=8:=qo;go_wp2_with fail;refine(q.o _ _).mono ?_;rintro e w1 ⟨rfl,p⟩;have o:=qB n p;have d:=aA (fun he=>r.o k h1 x f.o he);clear p;have l:Hid (cJ (k:Int)≠s->∀j:Nat,1<=j->j<k+1->cJ j≠s):=aA (fun he j a b=>by
    by_cases hj:j=k
    .rw[hj];exact he
    .exact f.o j a qo)
   by_cases he:cJ (k:Int)=s
   .have b1:((cJ (k:Int)).toList==s.toList)=true:=by rw[he];simp
    have g:=aA (d.o he);clear he d l;generalize cJ (k:Int)=a at *;go_wp2;go_ret;exact⟨by rw[g.o];rfl,o.o⟩
   .have b1:((cJ (k:Int)).toList==s.toList)=false:=by
     rw[Bool.eq_false_iff];intro h;exact he (ET (by simpa using h))
    have v:=aA (l.o he);clear he d l;generalize cJ (k:Int)=a at b1 ⊢;go_wp2;go_round
    case rel=>exact⟨k+1,qo,qo,by go_num,v,o⟩
    case measure=>simp[intOf];omega
  .obtain rfl:k=9:=qo;have g:=aA (t.o (fun j a b=>f.o j a b));go_wp2;go_ret;exact⟨by rw[g.o];rfl,n.o⟩
theorem NA:∀(l:lU) (a:Nat),(∀c∈l,bA c=true)->l.foldl (fun a c=>a * 10+(c.toNat - 48)) a<(a+1) * 10 ^ l.length
 | [],a,_=>by simp
 |c::l,a,h=>by
  have e:=(eQ c).1 (h c List.mem_cons_self);have d:=NA l (a * 10+(c.toNat - 48)) (fun x b=>h x (List.mem_cons_of_mem _ b));rw[List.foldl_cons,List.length_cons,Nat.pow_succ];refine lL d ?_;have h1:a * 10+(c.toNat - 48)+1<=(a+1) * 10:=qo
  calc (a * 10+(c.toNat - 48)+1) * 10 ^ l.length<=((a+1) * 10) * 10 ^ l.length:=Nat.mul_le_mul_right _ h1
   _=(a+1) * (10 ^ l.length * 10):=by rw[Nat.mul_assoc,Nat.mul_comm 10]
theorem LP{l:lU}(h:¬(l=[]\/9<l.length\/l.head?=some 48\/l.all bA=false)):jE l=(pQ l:Int)/\Lib.atoiAll l=.ok (pQ l:Int):=by
 simp only[not_or] at h;obtain⟨h1,h2,h3,h4⟩:=h;have a:∀c∈l,bA c=true:=by simpa using h4
 have b:=NA l 0 a;have hp:10 ^ l.length<=10 ^ 9:=Nat.pow_le_pow_right qe qo;refine⟨?_,?_⟩
 .unfold jE;rw[iN (by simp only[not_or];exact⟨h1,h2,h3,h4⟩)]
 .rw[zH a h1,iP (by unfold pQ;omega)]
theorem sD{l:lU}(h:l=[]\/9<l.length\/l.head?=some 48\/l.all bA=false):jE l=0:=by unfold jE;rw[iP h]
theorem Em(s:bY)(H:s.size<=100000)(w:World)(G:gU w):Calls prog 18 #[.string s] w (aP (.int .i64 (jE s.data.toList)) w):=by
 have f:Hid (s.data.toList.length=s.size):=aA (by rw[Array.length_toList];rfl);unfold aP;by_cases h0:s=⟨#[]⟩
 .have HR:Hid (jE s.data.toList=0):=aA (sD (.inl (by rw[h0])));obtain⟨d1,D⟩:=fM s [] h0;clear h0;go_enter func18,ntmps18;exact Kx
 .obtain⟨d1,D⟩:=fL s [] h0;have r:0<s.size:=by
   rcases Nat.eq_zero_or_pos s.size with h|h
   .exact absurd (ET (a:=s) (b:=⟨#[]⟩) (by
     have:s.data.toList=[]:=List.length_eq_zero_iff.1 (by rw[f.o];exact h);have E:s=⟨#[]⟩:=by rw[<-FD s,this];rfl
     rw[E])) h0
   .exact h
  have C:=aA r;clear h0;by_cases h9:9<s.size
  .have HR:Hid (jE s.data.toList=0):=aA (sD (.inr (.inl (by rw[f.o];exact h9))));have h91:(9:Int)<(s.size:Int):=qo;go_enter func18,ntmps18;exact Kx
  .have h91:¬((9:Int)<(s.size:Int)):=qo;have p:s.data.toList.head?=some s[0]:=by
    rw[List.head?_eq_getElem?,gE (by rw[f.o];exact r)];rfl
   have g:=aA p;clear p;by_cases h48:(s[0].toNat:Int)=48
   .have HR:Hid (jE s.data.toList=0):=aA (sD (.inr (.inr (.inl (by rw[g.o];congr 1;exact UInt8.toNat_inj.1 (by show s[0].toNat=48;omega))))));clear g;generalize M:s[0].toNat=c0 at *;go_enter func18,ntmps18;exact Kx
   .have B:Hid (s.data.toList.head?≠some 48):=aA (by
     rw[g.o];intro e;injection e with e;rw[e] at h48;exact h48 rfl)
    have t:=aA h9;clear g;go_enter func18,ntmps18;go_wp2;go_loop [3,20] (fun c i=>∃(k:Nat),k<=s.size/\i=.int .i64 k/\Hid (∀x∈s.data.toList.take k,bA x=true)) (fun _ i=>s.size - (intOf i).toNat)
    case atStart=>exact⟨0,qo,rfl,aA (fun x d=>by simp at d)⟩
    case round=>
     obtain⟨k,J,rfl,n⟩:=hrel;by_cases q:k<s.size
     .have z:Hid (bA s[k]=true->∀x∈s.data.toList.take (k+1),bA x=true):=aA (fun h x d=>by
       rw[List.take_succ_eq_append_getElem (by rw[f.o];exact q),List.mem_append,List.mem_singleton] at d
       rcases d with d|d
       .exact n.o x d
       .rw[d];exact h)
      have o:Hid (bA s[k]=false->jE s.data.toList=0):=aA (fun h=>sD (.inr (.inr (.inr (List.all_eq_false.2 ⟨s[k],by
       have:s.data.toList[k]'(by rw[f.o];exact q)=s[k]:=rfl;rw[<-this];exact List.getElem_mem _,by rw[h];decide⟩)))))
      have j:=aA (eQ s[k]);by_cases K:(s[k].toNat:Int)<48
      .have HR:=aA (o.o (by rw[Bool.eq_false_iff];intro h;have:=(j.o.1 h).1;omega));exact Kx
      .by_cases L:(57:Int)<(s[k].toNat:Int)
       .have HR:=aA (o.o (by rw[Bool.eq_false_iff];intro h;have:=(j.o.1 h).2;omega));exact Kx
       .have A:=aA (z.o (j.o.2 ⟨qo,qo⟩));go_wp2;go_round
        case rel=>exact⟨k+1,qo,by go_num,A⟩
        case measure=>simp[intOf];omega
     .obtain rfl:k=s.size:=qo;have m:=aA (LP (l:=s.data.toList) (by
       simp only[not_or];refine⟨fun e=> ?_,by rw[f.o];exact t.o,B.o,?_⟩
       .have h1:=f.o;rw[e] at h1;have h2:=C.o;simp at h1;omega
       .rw[Bool.not_eq_false,List.all_eq_true];intro x d;exact n.o x (by rw[List.take_of_length_le (by rw[f.o];exact lR _)];exact d)))
      have y:=aA (SG s H (by rw[m.o.2];intro h;cases h) w G);go_wp2_with fail;refine y.o.mono ?_;rintro e w1 ⟨v,I,rfl,hm,F⟩;rw[m.o.2] at hm;obtain⟨rfl,rfl⟩:=hm;go_wp2;go_ret;exact⟨by rw[m.o.1];rfl,F⟩
theorem QBR{p:Prop}(h:p:=by
 go_wp2;refine bR (.tuple #[.agg #[.int .i64 0,.int .i64 0,.string ⟨#[]⟩],.bool false]) ?_;exact WA HN.o (((HB1.o.setCell (lR _) _).setCell (lR _) _).setCell (lR _) _)):p:=h
theorem QBQ{p:Prop}(h:p:=by
 go_wp2;refine bR (.tuple #[.agg #[.int .i64 0,.int .i64 0,.string ⟨#[]⟩],.bool false]) ?_;exact WA HN.o (((HB2.o.setCell (lR _) _).setCell (lR _) _).setCell (lR _) _)):p:=h
def NC(o:Option V3)(w:World)(e:Ending)(w':World):Prop:=(∀v,o=some v->cR v)/\e=.returned (.tuple #[dA (o.getD bD),.bool o.isSome])/\Below w.heap.size w w'
theorem WA{o:Option V3}{w w':World}(h:o=none)(a:Below w.heap.size w w'):NC o w (.returned (.tuple #[.agg #[.int .i64 0,.int .i64 0,.string ⟨#[]⟩],.bool false])) w':=by subst h;exact⟨fun v h=>(by cases h),rfl,a⟩
theorem tC{o:Option V3}{w w':World}{v:V3}(h:o=some v)(b:cR v)(a:Below w.heap.size w w'):NC o w (.returned (.tuple #[.agg #[.int .i64 v.1,.int .i64 v.2.1,.string v.2.2],.bool true])) w':=by
 subst h;exact⟨fun u h=>by injection h with h;rw[<-h];exact b,rfl,a⟩
def FE(r:List Tok×Int×Int):Option V3:=
 match r with
 |([t,_],0,_)=>
  if t.aCF=2 then some (2,t.num,t.str) else if t.aCF=3 then some (4,t.num,t.str) else if t.aCF=4 then some (5,t.num,t.str)
  else if t.aCF=5 then some (3,t.num,t.str)
  else if t.aCF=1 then (if t.str=str "true" then some (1,1,ByteArray.empty) else if t.str=str "false" then some (1,0,ByteArray.empty) else none)
  else none
 |_=>none
theorem Qk(l:lU):oQ l=FE (jL l):=rfl
theorem Vo{T:List Tok}{e p:Int}(h:e≠0):FE (T,e,p)=none:=by
 unfold FE;split
 .rename_i h0;injection h0 with _ h1;injection h1 with h1 _;exact absurd h1 h
 .rfl
theorem Vp{T:List Tok}{e p:Int}(h:T.length≠2):FE (T,e,p)=none:=by
 unfold FE;split
 .rename_i h0;injection h0 with h1 _;rw[h1] at h;exact absurd rfl h
 .rfl
theorem YN(s:bY)(w:World)(hg:gU w):Calls prog 17 #[.string s] w (NC (oQ s.data.toList) w):=by
 obtain⟨O,E⟩:=xE (oQ s.data.toList);rw[<-E];obtain⟨W0,I⟩:=xE (w.alloc (.cells fT 44));have U:Below w.heap.size w W0:=by rw[I];exact aB _ _
 have R:Hid (W0.heap[w.heap.size]? =some (.cells fT 44 (0,0))):=aA (by rw[I];exact aK _ _ _ rfl);have B:=aA (KP s W0 (hg.on U));rw[Qk] at E;unfold yG at B;have ag:=aA U;have ad:=aA I;generalize jL s.data.toList=L at *;obtain⟨T,le,lp⟩:=L;dsimp only at B;have Q:=aA E;clear E U I hg;go_enter func17,ntmps17;go_upto_region 1 with (fail)
 rw[<-ad.o];go_wp2_with fail;refine B.o.mono ?_;rintro e w1 ⟨v,rfl,Z,F⟩;obtain⟨a,c,rfl,an⟩:=Z.slice;obtain⟨HV,HB1,C⟩:=aY Z (aC ag.o F) (aE R.o F);clear Z F B;obtain⟨⟨r0,r1,r2⟩,f0,f1,f2⟩:=cE C.o;have zr:=aD C.o;by_cases he:le=0
 .by_cases h2:T.length=2
  .subst he;have ak:=aA h2;have ai:0<T.length:=qo;obtain⟨b,off,r,rfl,af,H,⟨rfl,X⟩,A⟩:=aH.at gX HV.o ai qe;obtain⟨t,Y⟩:=xE (T[0]);rw[<-Y] at X A;have ae:O=FE ([t,T[1]'(by omega)],0,lp):=by
    rw[Q.o]
    rcases T with _|⟨t1,_|⟨t2,_|⟨t3,T⟩⟩⟩
    .simp at h2
    .simp at h2
    .rw[Y];rfl
    .simp at h2
   have n:=aA (show O=(if t.aCF=2 then some (2,t.num,t.str) else if t.aCF=3 then some (4,t.num,t.str) else if t.aCF=4 then some (5,t.num,t.str) else if t.aCF=5 then some (3,t.num,t.str) else if t.aCF=1 then (if t.str=str "true" then some (1,1,ByteArray.empty) else if t.str=str "false" then some (1,0,ByteArray.empty) else none) else none) from ae);have m:=aA X;have D:Hid (∀w2,Below w1.heap.size w1 w2->w2.cell? ⟨b,off,none⟩=some (.int .i64 t.aCF)/\w2.cell? ⟨b,off+2,none⟩=some (.int .i64 t.num)/\w2.cell? ⟨b,off+3,none⟩=some (.string t.str)/\b<w2.heap.size):=aA (fun w2 G=>by
    have o:=A 0 _ rfl;have q:=A 2 _ rfl;have x:=A 3 _ rfl;rw[Nat.zero_mul,Nat.add_zero] at o q x;exact⟨(G.cell (p:=⟨b,off,none⟩) H).trans o,(G.cell (p:=⟨b,off+2,none⟩) H).trans q,(G.cell (p:=⟨b,off+3,none⟩) H).trans x,lL H G.size⟩)
   have b1:((0:Int) != 0)=false:=rfl;have b2:((T.length:Int) != 2)=false:=by rw[h2];rfl
   have b3:((2:Int) != 2)=false:=rfl;have al:¬(T.length=0):=qo;have ao:(0:Int)<(T.length:Int):=qo;have aj:=aA (show b≠w.heap.size from fun e=>by have h5:W0.heap.size<=b:=af;rw[ad.o] at h5;simp at h5;omega);clear A X Y ae af h2;go_upto_region 4 with (fail)
   obtain⟨d,ap,J,st⟩:=t;dsimp only at n D m;have W:Below w1.heap.size w1 w1.drew:=(Below.refl _ _).drew;have P:=aA W;obtain⟨o,q,x,M⟩:=D.o _ W;refine cB 10 [(0,false),(1,false),(2,false),(3,false),(4,false),(5,false),(6,false),(7,false),(8,false),(9,true)] [(10,true)] (fun w'=>Below w1.heap.size w1 w') (by kernel_rfl) (by kernel_rfl) P.o ?_;simp only[List.cons_append,List.nil_append]
   repeat (refine dG rfl (fun K V=> ?_);unfold rd;go_simp;refine V _ (fun au h1=> ?_) ?_;(· clear V K o q x M;obtain⟨o,q,x,M⟩:=D.o _ h1;unfold rd;go_simp);clear V K)
   clear o q x M W;refine bJ rfl (fun S z=> ?_);unfold mv;go_simp;refine z _ (World.alloc _ (.cells fT 44)) (fun _=>aC P.o (aB _ _)) ?_;clear z S;refine bJ rfl (fun S z=> ?_);unfold mv;refine kV rfl _ (.tmp 7) (.tmp 30) rfl w1.heap.size _ rfl rfl _ _ (aK _ _ _ rfl) (by kernel_rfl) rfl (by simp[Value.oneCell']) ?_;intro w2 ab ah;refine z _ _ (fun h=>absurd h qe) ?_;clear z S;unfold cI;have N:Hid (Below w1.heap.size w1 w2):=aA (((aJ (ok:=fun b=>b<w1.heap.size) (aC P.o (aB w1.drew (.cells fT 44)))).trans (ah.o.mono fun b _ F=>by show (_:Nat)≠_;omega)).below (fun k hk=>⟨hk,hk⟩));have HB2:=qB HB1 N.o;have aa:=qK C N.o;have y:Hid (¬w.heap.size=w1.heap.size/\¬w1.heap.size=w.heap.size/\w.heap.size<=w1.heap.size):=aA (by have:=aD C.o;exact⟨qo,qo,qo⟩);have aq:=y.o.1;have ar:=y.o.2.1;obtain⟨o,q,x,M⟩:=D.o _ N.o;clear r0 r1 r2 f0 f1 f2 zr;obtain⟨⟨r0,r1,r2⟩,f0,f1,f2⟩:=cE aa.o;have zr:=aD aa.o;obtain⟨⟨y0,y1,y2⟩,g0,g1,g2⟩:=cE ab.o;have zy:=aD ab.o;by_cases g:d=2
   .subst g;have HN:=aA (n.o.trans (iP rfl));go_wp2;refine bR (.tuple #[.agg #[.int .i64 2,.int .i64 J,.string st],.bool true]) ?_;exact tC HN.o ⟨⟨by show (-9223372036854775808:Int)<=2;omega,by show (2:Int)<=9223372036854775807;omega⟩,m.o.2.2.1,m.o.2.2.2⟩ ((((HB2.o.setCell y.o.2.2 _).setCell (lR _) _).setCell (lR _) _).setCell (lR _) _)
   .have c2:(d==2)=false:=bN.2 g;by_cases i:d=3
    .subst i;have HN:=aA (n.o.trans ((iN qe).trans (iP rfl)));go_wp2;refine bR (.tuple #[.agg #[.int .i64 4,.int .i64 J,.string st],.bool true]) ?_;exact tC HN.o ⟨⟨by show (-9223372036854775808:Int)<=4;omega,by show (4:Int)<=9223372036854775807;omega⟩,m.o.2.2.1,m.o.2.2.2⟩ ((((HB2.o.setCell y.o.2.2 _).setCell (lR _) _).setCell (lR _) _).setCell (lR _) _)
    .have c3:(d==3)=false:=bN.2 i;by_cases j:d=4
     .subst j;have HN:=aA (n.o.trans ((iN qe).trans ((iN qe).trans (iP rfl))));go_wp2;refine bR (.tuple #[.agg #[.int .i64 5,.int .i64 J,.string st],.bool true]) ?_;exact tC HN.o ⟨⟨by show (-9223372036854775808:Int)<=5;omega,by show (5:Int)<=9223372036854775807;omega⟩,m.o.2.2.1,m.o.2.2.2⟩ ((((HB2.o.setCell y.o.2.2 _).setCell (lR _) _).setCell (lR _) _).setCell (lR _) _)
     .have c4:(d==4)=false:=bN.2 j;by_cases l:d=5
      .subst l;have HN:=aA (n.o.trans ((iN qe).trans ((iN qe).trans ((iN qe).trans (iP rfl)))));go_wp2;refine bR (.tuple #[.agg #[.int .i64 3,.int .i64 J,.string st],.bool true]) ?_;exact tC HN.o ⟨⟨by show (-9223372036854775808:Int)<=3;omega,by show (3:Int)<=9223372036854775807;omega⟩,m.o.2.2.1,m.o.2.2.2⟩ ((((HB2.o.setCell y.o.2.2 _).setCell (lR _) _).setCell (lR _) _).setCell (lR _) _)
      .have c5:(d==5)=false:=bN.2 l;by_cases f:d=1
       .have c1:(d==1)=true:=bQ.2 f;by_cases t1:st=str "true"
        .have HN:=aA (n.o.trans ((iN g).trans ((iN i).trans ((iN j).trans ((iN l).trans ((iP f).trans (iP t1)))))));obtain⟨d1,e1⟩:=fM st [116,114,117,101] (t1.trans (by kernel_rfl));clear f g i j l t1;go_wp2;refine bR (.tuple #[.agg #[.int .i64 1,.int .i64 1,.string ⟨#[]⟩],.bool true]) ?_;exact tC (v:=(1,1,ByteArray.empty)) HN.o ⟨⟨qe,qe⟩,⟨qe,qe⟩,qe⟩ (((HB2.o.setCell (lR _) _).setCell (lR _) _).setCell (lR _) _)
        .obtain⟨d1,e1⟩:=fL st [116,114,117,101] (fun e=>t1 (e.trans (by kernel_rfl)));by_cases t2:st=str "false"
         .have HN:=aA (n.o.trans ((iN g).trans ((iN i).trans ((iN j).trans ((iN l).trans ((iP f).trans ((iN t1).trans (iP t2))))))));obtain⟨d2,e2⟩:=fM st [102,97,108,115,101] (t2.trans (by kernel_rfl));clear f g i j l t1 t2;go_wp2;refine bR (.tuple #[.agg #[.int .i64 1,.int .i64 0,.string ⟨#[]⟩],.bool true]) ?_;exact tC (v:=(1,0,ByteArray.empty)) HN.o ⟨⟨qe,qe⟩,⟨qe,qe⟩,qe⟩ (((HB2.o.setCell (lR _) _).setCell (lR _) _).setCell (lR _) _)
         .have HN:=aA (n.o.trans ((iN g).trans ((iN i).trans ((iN j).trans ((iN l).trans ((iP f).trans ((iN t1).trans (iN t2))))))));obtain⟨d2,e2⟩:=fL st [102,97,108,115,101] (fun e=>t2 (e.trans (by kernel_rfl)));clear f g i j l t1 t2;exact QBQ
       .have c1:(d==1)=false:=bN.2 f;have HN:=aA (n.o.trans ((iN g).trans ((iN i).trans ((iN j).trans ((iN l).trans (iN f))))));clear f g i j l;exact QBQ
  .have b1:(le != 0)=false:=by simpa using he
   have b2:((T.length:Int) != 2)=true:=by simp;omega
   have HN:=aA (Q.o.trans (Vp h2));clear he h2;exact QBR
 .have b1:(le != 0)=true:=by simpa using he
  have HN:=aA (Q.o.trans (Vo he));clear he;exact QBR
def AQ(k:Int)(base:Op)(a:lU):Option Op:=
 if k=1 then some {base with aCK:=bs a}
 else if k=2\/k=6 then some {base with aCK:=bs (cN a).1,aCY:=bs (cN a).2}
 else if k=3 then (oQ (cN (cN a).2).2).map (fun v=>{base with aCK:=bs (cN a).1,aCY:=bs (cN (cN a).2).1,val:=v})
 else if k=4 then some {base with aCK:=bs (cN a).1,to_:=bs (cN a).2}
 else if k=5\/k=8 then some {base with aC0:=jE a}
 else if k=7 then some {base with text:=bs a}
 else some base
def Sv(k:Int)(a reason:lU)(glass:Bool):Op:={SL with aCF:=k,aCT:=bs a,aC2:=bs reason,aC7:=glass}
def vD(o:Option Op):Option Op:=match o with
 |some o=>if gO o then some o else none
 |none=>none
theorem Am(l:lU):kU l=vD (AQ (oG (cN (jU (cN l).2).2.2).1) (Sv (oG (cN (jU (cN l).2).2.2).1) (cN l).1 (jU (cN l).2).2.1 (jU (cN l).2).1) (cN (jU (cN l).2).2.2).2):=by
 rfl
theorem sE(l:lU):(cN l).1.length<=l.length/\(cN l).2.length<=l.length:=by
 unfold cN;refine⟨(List.takeWhile_sublist _).length_le,?_⟩;rw[List.length_drop];have:=(List.dropWhile_sublist (fun c:UInt8=>decide (c.toNat≠32)) (l:=l)).length_le;omega
theorem An(l:lU):(jU l).2.1.length<=l.length/\(jU l).2.2.length<=l.length:=by
 unfold jU;split
 .rename_i r;have:=sE r;simp only[List.length_cons];omega
 .simp
end Go.Proofs.YtlfngkelmbdehaaGreatDoor
