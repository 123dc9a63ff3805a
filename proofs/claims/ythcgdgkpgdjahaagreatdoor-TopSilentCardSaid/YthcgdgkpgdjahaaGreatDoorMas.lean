/- Lemmas. -/
import Derived.Test.YthcgdgkpgdjahaaGreatDoorMar
import Derived.IntWalk
namespace Go.Proofs.YthcgdgkpgdjahaaGreatDoor
open Go.RowKit
set_option linter.unusedVariables false
set_option linter.unusedSimpArgs false
set_option maxHeartbeats 16000000
open _root_.Go.Proofs.Tryz
set_option maxRecDepth 20000
structure kP (n:Nat) (s:Sto):Prop where
 aDO:s.aDO.length<=n
 aDQ:s.aDQ.length<=n
 aDV:s.aDV.length<=n
 aEf:∀c∈s.aDO,c.log.length<=n
theorem kP.more{n m:Nat}{s:Sto}(h:kP n s)(a:n<=m):kP m s:=⟨lT h.aDO a,lT h.aDQ a,lT h.aDV a,fun c b=>lT (h.aEf c b) a⟩
theorem ZM{n:Nat}{s:Sto}(h:kP n s)(i:Nat)(a b:bY):kP (n+1) (eQ s i (fun c=>nA s c a b)):=by
 refine⟨?_,Nat.le_succ_of_le h.aDQ,Nat.le_succ_of_le h.aDV,fun c e=> ?_⟩
 .have h1:(eQ s i (fun c=>nA s c a b)).aDO.length=s.aDO.length:=by
   unfold eQ;dsimp only;split
   .exact List.length_set
   .rfl
  rw[h1];exact Nat.le_succ_of_le h.aDO
 .have h1:c∈s.aDO\/∃d,s.aDO[i]? =some d/\c=nA s d a b:=by
   unfold eQ at e;dsimp only at e;split at e
   .rename_i d f
    rcases List.mem_or_eq_of_mem_set e with h2|h2
    .exact .inl h2
    .exact .inr ⟨d,f,h2⟩
   .exact .inl e
  rcases h1 with h1|⟨d,f,rfl⟩
  .exact Nat.le_succ_of_le (h.aEf c h1)
  .have:=h.aEf d (List.mem_of_getElem? f);unfold nA;simp only[aL,List.length_cons,List.length_nil];omega
theorem Kg{n:Nat}{s:Sto}(h:kP n s)(o:Op)(what:bY):kP (n+1) (mE s o what):=by
 unfold mE;dsimp only;split
 .exact ZM h _ _ _
 .exact h.more (Nat.le_succ n)
theorem DZ{n:Nat}{s:Sto}(h:kP n s)(o:Op)(r:bY):kP (n+1) (gG s o r):=
 ⟨Nat.le_succ_of_le h.aDO,by unfold gG;simp only[aL,List.length_cons,List.length_nil];have:=h.aDQ;omega,Nat.le_succ_of_le h.aDV,fun c a=>Nat.le_succ_of_le (h.aEf c a)⟩
theorem Kh{n:Nat}{s:Sto}(h:kP n s)(o:Op)(d:Bool)(x:Ob):kP (n+1) (cU o d s x):=by
 unfold cU;split
 .exact Kg h _ _
 .split
  .exact DZ h _ _
  .split
   .exact⟨Nat.le_succ_of_le h.aDO,Nat.le_succ_of_le h.aDQ,by simp only[aL,List.length_cons,List.length_nil];have:=h.aDV;omega,fun c a=>Nat.le_succ_of_le (h.aEf c a)⟩
   .exact h.more (Nat.le_succ n)
theorem yD(o:Op)(d:Bool):∀(l:List Ob) (n:Nat) (s:Sto),kP n s->kP (n+l.length) (l.foldl (cU o d) s)
 | [],_,_,h=>h
 |x::l,n,s,h=>by
  have:=yD o d l (n+1) _ (Kh h o d x);rw[List.length_cons,show n+(l.length+1)=n+1+l.length by omega];exact this
theorem Ki{α β:Type}(f:β->α->β)(l:List α)(b:β){k:Nat}(a:k<l.length):(l.take (k+1)).foldl f b=f ((l.take k).foldl f b) l[k]:=by
 rw[List.take_succ_eq_append_getElem a,List.foldl_append];rfl
theorem iE.aEE{K:nP}{base B:Nat}{w w':World}{s:Sto}(h:iE K base B w w s)(a:Below w.heap.size w w'):iE (fun b=>K b\/(w.heap.size<=b/\b<w'.heap.size)) base B w' w' s:=by
 obtain⟨L,ro,vc,vr,vn,vo,vt,vu,vk,vb,h1,h2,h3⟩:=h;exact⟨L,ro,vc,vr,vn,vo,vt,vu,vk,vb,aE h1 a,h2.aEE a,aN.refl _ _⟩
theorem iE.size{K:nP}{base B:Nat}{a b:World}{s:Sto}(h:iE K base B a b s):base<=b.heap.size:=by
 obtain⟨_,_,_,_,_,_,_,_,_,_,_,h2,_⟩:=h;exact h2.size
theorem iE.stays{K:nP}{base B:Nat}{a b:World}{s:Sto}(h:iE K base B a b s):aN (fun b=>(b<base/\b≠B)\/K b) a b:=by
 obtain⟨_,_,_,_,_,_,_,_,_,_,_,_,h3⟩:=h;exact h3
theorem VM{K:nP}{base B:Nat}{w d c:World}{s:Sto}{L:List Mix}{ro:Option Value}{vc vr vn vo vt vu vk vb:Value}{i:Obj}(f:bD K base d s L ro vc vr vn vo vt vu vk vb)(a:d.heap[B]? =some i)(k:B<base)(n:Below w.heap.size w d){v':Value}{l':List xY}(g:d.grownBy c vn.ownBlock)(l:aM wK 3 169 c base (fun _=>False) v' l')(m:v'.ownBlock=vn.ownBlock\/v'.ownBlock=some d.heap.size):
 Hid (c.heap[B]? =some i)/\Hid (bD K base c {s with aDV:=l'} L ro vc vr v' vo vt vu vk vb)/\Hid (aN (fun b=>(b<base/\b≠B)\/K b) w c):=by
 have j:∀b,b<base->some b≠vn.ownBlock:=fun b a e=>qA ((f.aDV.lt b e.symm).1)
 exact⟨(g.block B (aD a) (j B k)).trans a,f.aE1 g l (yW m (lR _)),(aJ n).trans ((cX g).mono (fun b _ a=>a.elim (fun h=>j b h.1) (fun h=>(f.kept b h).2.2.2.1)))⟩
theorem QCW{p:Prop}(h:p:=by
 go_enter func293,ntmps293;go_wp2;go_returns;exact Br (by unfold kL lQ;omega)):p:=h
theorem QCg{p:Prop}(h:p:=by
 go_wp2
 all_goals go_returns
 all_goals first|exact Qv ⟨by unfold kL;omega,by unfold lQ;omega⟩|exact Br (by unfold kL lQ;omega)):p:=h
theorem Up{p:Prop}(h:p:=by
 go_wp2
 all_goals go_returns
 all_goals (rw[HV.o];exact⟨rfl,rfl⟩)):p:=h
def vY(r:Int×Int)(w:World)(e:Ending)(w':World):Prop:=e=.returned (.tuple #[.int .i64 r.1,.int .i64 r.2])/\w=w'
theorem Qv{P:Prop}[Decidable P]{x:Int}(h:P){w:World}:vY (if P then (x,0) else (0,3)) w (.returned (.tuple #[.int .i64 x,.int .i64 0])) w:=by rw[iP h];exact⟨rfl,rfl⟩
theorem Br{P:Prop}[Decidable P]{x:Int}(h:¬P){w:World}:vY (if P then (x,0) else (0,3)) w (.returned (.tuple #[.int .i64 0,.int .i64 3])) w:=by rw[iN h];exact⟨rfl,rfl⟩
theorem Qw(a b:Int)(ha:bL a)(c:bL b)(w:World):Calls prog 291 #[.int .i64 a,.int .i64 b] w (vY (tD a b) w):=by
 unfold bL at ha c;obtain⟨d,e⟩:=ha;obtain⟨f,g⟩:=c;go_enter func291,ntmps291;exact QCg
theorem Qx(a b:Int)(ha:bL a)(c:bL b)(w:World):Calls prog 292 #[.int .i64 a,.int .i64 b] w (vY (tE a b) w):=by
 unfold bL at ha c;obtain⟨d,e⟩:=ha;obtain⟨f,g⟩:=c;go_enter func292,ntmps292;exact QCg
theorem Qy(n:Int):∃k:Int,IntKind.i64.wrap n=n+k * 18446744073709551616/\-9223372036854775808<=IntKind.i64.wrap n/\IntKind.i64.wrap n<=9223372036854775807:=by
 rw[IntKind.wrap_i64];refine⟨-((n+9223372036854775808) / 18446744073709551616),?_,?_,?_⟩<;>omega
theorem Qz{a b c:Int}(ha:bL a)(e:bL b)(h0:a≠0)(h1:a≠ -1)(f:IntKind.i64.wrap (a * b)=c):(IntKind.i64.wrap (c.tdiv a)=b->(kL<=a * b/\a * b<=lQ)/\c=a * b)/\(IntKind.i64.wrap (c.tdiv a)≠b->¬(kL<=a * b/\a * b<=lQ)):=by
 unfold bL at ha e;unfold kL lQ;obtain⟨k,i,j,l⟩:=Qy (a * b);rw[f] at i j l;have o:=Int.mul_tdiv_add_tmod c a;have s:(c.tmod a).natAbs<a.natAbs:=by
  rw[Int.natAbs_tmod];exact Nat.mod_lt _ (Int.natAbs_pos.2 h0)
 constructor
 .intro d;have q:IntKind.i64.wrap (c.tdiv a)=c.tdiv a:=by
   refine IntWalk.i64_in _ ?_;have h2:(c.tdiv a).natAbs<=c.natAbs:=by rw[Int.natAbs_tdiv];exact Nat.div_le_self _ _
   by_cases g:c.tdiv a=9223372036854775808
   .exfalso;have h3:c= -9223372036854775808:=qo;have h4:(c.tdiv a).natAbs=c.natAbs / a.natAbs:=Int.natAbs_tdiv _ _;rw[g,h3] at h4;have h5:a.natAbs=1:=by
     rcases Nat.lt_or_ge 1 a.natAbs with h|h
     .have:=Nat.div_lt_self (n:=(-9223372036854775808:Int).natAbs) qe h;omega
     .omega
    have h6:a=1:=qo;rw[h6,Int.tdiv_one] at g;omega
   .omega
  rw[q] at d;rw[d] at o;have:c=a * b:=by
   generalize a * b=p at *;generalize c.tmod a=r at *;omega
  exact⟨by rw[<-this];omega,this⟩
 .intro d ⟨h2,h3⟩;have m:c=a * b:=by rw[<-f];exact IntWalk.i64_in _ ⟨h2,h3⟩
  apply d
  rw[m,Int.mul_tdiv_cancel_left _ h0];exact IntWalk.i64_in _ e
theorem Ra(a b:Int)(ha:bL a)(j:bL b)(w:World):Calls prog 293 #[.int .i64 a,.int .i64 b] w (vY (mN a b) w):=by
 have p:=aA ha;have r:=aA j;unfold bL at ha j;obtain⟨v,x⟩:=ha;obtain⟨y,z⟩:=j;by_cases e:a= -1/\b= -9223372036854775808
 .obtain⟨rfl,rfl⟩:=e;exact QCW
 by_cases g:b= -1/\a= -9223372036854775808
 .obtain⟨rfl,rfl⟩:=g;exact QCW
 by_cases h0:a=0
 .subst h0;have HV:Hid (mN 0 b=(0,0)):=aA (by unfold mN;rw[Int.zero_mul,iP qe]);clear e;have f:IntKind.i64.wrap (0 * b)=0:=by rw[Int.zero_mul];exact IntWalk.i64_in _ qo
  have d1:((0:Int)== -9223372036854775808)=false:=rfl;go_enter func293,ntmps293;exact Up
 by_cases h1:a= -1
 .subst h1;have h2:b≠ -9223372036854775808:=fun h=>e ⟨rfl,h⟩
  have d1:(b== -9223372036854775808)=false:=bN.2 h2;have HV:Hid (mN (-1) b=(-b,0)):=aA (by unfold mN kL lQ;rw[show (-1:Int) * b= -b by omega,iP qo]);have f:IntKind.i64.wrap (-1 * b)= -b:=by rw[show (-1:Int) * b= -b by omega];exact IntWalk.i64_in _ qo
  have d2:(wrap64 (- -b) != b)=false:=by rw[Int.neg_neg,<-IntWalk.i64_left,IntWalk.i64_in _ qo];simp
  have d3:(wrap64 b != b)=false:=by rw[<-IntWalk.i64_left,IntWalk.i64_in _ qo];simp
  have d4:((-1:Int)== -9223372036854775808)=false:=rfl;have n:wrap64 (-b)= -b:=by rw[<-IntWalk.i64_left];exact IntWalk.i64_in _ qo
  have d5:wrap64 b=b:=by rw[<-IntWalk.i64_left,IntWalk.i64_in _ qo]
  clear e g h2;by_cases l:b= -1
  .subst l;have C:wrap64 1=1:=by rw[<-IntWalk.i64_left];exact IntWalk.i64_in _ qo
   clear n d5 f d1 d2 d3;go_enter func293,ntmps293;exact Up
  .have d6:(b== -1)=false:=bN.2 l;have s:=aA n;clear l;go_enter func293,ntmps293;go_wp2
   all_goals go_returns
   all_goals (rw[HV.o];exact⟨by show Ending.returned (.tuple #[.int .i64 (wrap64 (-b)),.int .i64 0])=_;rw[s.o],rfl⟩)
 obtain⟨c,f⟩:∃c,IntKind.i64.wrap (a * b)=c:=⟨_,rfl⟩;obtain⟨q,o⟩:∃q,IntKind.i64.wrap (c.tdiv a)=q:=⟨_,rfl⟩;have i:=aA (Qz p.o r.o h0 h1 f);rw[o] at i;have d0:(a==0)=false:=bN.2 h0;have A:(a != 0)=true:=bne_iff_ne.2 h0;have d1:(a== -1)=false:=bN.2 h1;have t:=aA g;have B:wrap64 (c.tdiv a)=q:=by rw[<-IntWalk.i64_left];exact o
 clear e g v x y z;have m:Hid ((b== -1)=true/\(a== -9223372036854775808)=false\/(b== -1)=false):=aA (by
  by_cases k:b= -1
  .exact .inl ⟨bQ.2 k,bN.2 (fun h=>t.o ⟨k,h⟩)⟩
  .exact .inr (bN.2 k))
 by_cases d:q=b
 .have d3:(q != b)=false:=by rw[d];simp
  have HV:Hid (mN a b=(c,0)):=aA (by
   obtain⟨h2,h3⟩:=i.o.1 d;unfold mN;rw[iP h2,h3])
  clear d
  rcases m.o with ⟨d5,d6⟩|d5
  all_goals
   go_enter func293,ntmps293;exact Up
 .have d3:(q != b)=true:=bne_iff_ne.2 d;have HV:Hid (mN a b=(0,3)):=aA (by
   have h2:=i.o.2 d;unfold mN;rw[iN h2])
  clear d
  rcases m.o with ⟨d5,d6⟩|d5
  all_goals
   go_enter func293,ntmps293;exact Up
theorem QCP{p:Prop}(h:p:=by
 go_wp2;go_roundw
 case rel=>exact⟨j+1,qo,by go_num,HS2,HB2⟩
 case measure=>simp[intOf];omega):p:=h
theorem sK(b:Bool)(w:World):Calls prog 289 #[.bool b] w (aP (dC (cI b)) w):=by
 have a:Hid (∀x,dC (1,x,ByteArray.empty)=.agg #[.int .i64 1,.int .i64 x,.string ByteArray.empty]):=aA (fun x=>rfl);have e:cI b=(1,if b then 1 else 0,ByteArray.empty):=rfl;rw[e,a.o];clear e;have HBE:=aA (fun c d:Obj=>aC (aB w c) (aB _ d));unfold aP
 cases b
 .go_enter func289,ntmps289;exact QDj
 .go_enter func289,ntmps289;exact QDk
theorem tM{ok:nP}(k:Int)(v:Value)(l:List V3)(w:World)(h:aH VR w ok v l):Calls prog 294 #[.int .i64 k,v] w (aP (.bool (l.all (fun x=>decide (x.1=k)))) w):=by
 obtain⟨a,c,rfl,C⟩:=h.slice;have t:=aA h;clear h;unfold aP;obtain⟨p,hp⟩:∃p:V3->Bool,p=(fun x=>decide (x.1=k)):=⟨_,rfl⟩;have s:=aA hp;rw[<-hp];obtain⟨res,n⟩:=xE (l.all p);rw[<-n];have HR0:Hid ((l.drop 0).all p=res):=aA (by rw[List.drop_zero];exact n.symm);clear n hp;go_enter func294,ntmps294;go_wp2;go_loopw [9] (fun i wr=>∃j:Nat,j<=l.length/\i=.int .i64 j/\Hid ((l.drop j).all p=res)/\Hid (Below w.heap.size w wr)) (fun i _=>l.length - (intOf i).toNat)
 case atStart=>exact Bd
 case round=>
  clear HR0;obtain⟨j,hj,rfl,g,HB⟩:=hrel;by_cases q:j<l.length
  .have z:(j:Int)<(l.length:Int):=qo;obtain⟨b,off,r,rfl,_,B,⟨rfl,y⟩,o⟩:=aH.at bG (t.o.on bG HB.o) q qe;obtain⟨A,D,E⟩:=cR3 o;rw[Nat.add_zero] at A;obtain⟨m,f,HB2⟩:=aZ (by have h:=g.o;rw[List.drop_eq_getElem_cons q,List.all_cons] at h;exact h:(p l[j]&&(l.drop (j+1)).all p)=res) (show p l[j]=decide (l[j].1=k) by rw[s.o]) (aC HB.o (aB wr (.cells #[.int .i64 l[j].1,.int .i64 l[j].2.1,.string l[j].2.2] 30)));clear o g y;generalize l[j]=x at *;by_cases e:x.1=k
   .have d:(x.1 != k)=false:=by rw[e];simp
    have HS2:Hid ((l.drop (j+1)).all p=res):=aA (by have:=m.o;rwa [f.o,dX e,Bool.true_and] at this);clear e m f;exact QCP
   .have d:(x.1 != k)=true:=bne_iff_ne.2 e;have HS2:Hid (false=res):=aA (by have:=m.o;rwa [f.o,dF e,Bool.false_and] at this);clear e m f;go_wp2;go_returns;exact⟨by rw[<-HS2.o];rfl,HB2.o⟩
  .have z:¬(j:Int)<(l.length:Int):=qo;obtain rfl:j=l.length:=qo;have HE:Hid (true=res):=aA (by have:=g.o;rwa [List.drop_length] at this);clear g;exact Ue
def TE(op:Int):Nat:=if op=11 then 1 else 2
theorem oA{ok:nP}(op:Int)(v:Value)(l:List V3)(w:World)(h:aH VR w ok v l)(h6:6<=op)(h13:op<=13)(d:l.length=TE op):Calls prog 288 #[.int .i64 op,v] w (aP (.bool (l.all aT)) w):=by
 obtain⟨a,c,rfl,F⟩:=h.slice;have D:=aA h;clear h;unfold aP;obtain⟨res,s⟩:=xE (l.all aT);rw[<-s];have HR0:Hid ((l.drop 0).all aT=res):=aA (by rw[List.drop_zero];exact s.symm);have d1:decide (op<6)=false:=dF qo;have d2:decide (op > 13)=false:=dF qo;obtain⟨n,q⟩:=xE l.length;have t:=aA q;rw[<-q] at d F ⊢;clear s q;have E:Hid ((op==11)=true/\n=1\/(op==11)=false/\n=2):=aA (by
  unfold TE at d;by_cases m:op=11
  .rw[iP m] at d;exact .inl ⟨bQ.2 m,d⟩
  .rw[iN m] at d;exact .inr ⟨bN.2 m,d⟩)
 clear d h6 h13
 rcases E.o with ⟨d3,rfl⟩|⟨d3,rfl⟩
 all_goals
  go_enter func288,ntmps288;go_wp2;go_loopw [24] (fun i wr=>∃j:Nat,j<=l.length/\i=.int .i64 j/\Hid ((l.drop j).all aT=res)/\Hid (Below w.heap.size w wr)) (fun i _=>l.length - (intOf i).toNat)
  case atStart=>exact Bd
  case round=>
   clear HR0;obtain⟨j,hj,rfl,g,HB⟩:=hrel;by_cases B:j<l.length
   .have f:=t.o;have p:(j:Int)<(l.length:Int):=qo;rw[<-f] at p;obtain⟨b,off,r,rfl,_,I,⟨rfl,A⟩,z⟩:=aH.at bG (D.o.on bG HB.o) B qe;obtain⟨C,G,H⟩:=cR3 z;rw[Nat.add_zero] at C;have o:=aA (by have h:=g.o;rw[List.drop_eq_getElem_cons B,List.all_cons] at h;exact h:(aT l[j]&&(l.drop (j+1)).all aT)=res);have k:=aA (fun w=>nU l[j].1 l[j].2.1 l[j].2.2 (tI A.2.2) w);unfold lN at k;have e:aT (l[j].1,l[j].2.1,l[j].2.2)=aT l[j]:=rfl;rw[e] at k;clear z g A f e;generalize l[j]=x at *;generalize aT x=r at *;go_wp2_with fail;refine(k.o _).mono ?_;rintro e w2 ⟨rfl,y⟩;have HB2:=aA (aC (aC HB.o (aB _ _)) y);clear y k C G H
    cases r
    .have HS2:Hid (false=res):=o.o;go_wp2;go_returns;exact⟨by rw[<-HS2.o];rfl,HB2.o⟩
    .have HS2:Hid ((l.drop (j+1)).all aT=res):=o.o;clear o;exact QCP
   .have f:=t.o;have p:¬(j:Int)<(l.length:Int):=qo;rw[<-f] at p;obtain rfl:j=l.length:=qo;have HE:Hid (true=res):=aA (by have:=g.o;rwa [List.drop_length] at this);clear g f;exact Ue
theorem QBB{p:Prop}(h:p:=by
 by_cases h1:x.1=2
 .rw[dF (p:=y.1=2) (fun h2=>hk ⟨h1,h2⟩),Bool.and_false]
 .rw[dF h1,Bool.false_and]):p:=h
theorem Bs{p:Prop}(h:p:=by
 unfold eE;rw[HV2.o];exact⟨rfl,(((gB HB1.o ⟨_,rfl⟩).setCell (lR _) _).setCell (lR _) _).setCell (lR _) _⟩):p:=h
theorem QAE{p:Prop}(h:p:=by
 clear e hk;go_enter func290,ntmps290;go_wp2_with fail;refine HA.o.mono ?_;rintro e w1 ⟨rfl,hb_⟩;have HB1:=qB HB0 hb_;replace B0:=qK B0 hb_;obtain⟨⟨B00,B01,B02⟩,_⟩:=cF B0.o;have zB0:=aD B0.o;clear hb_ HA;go_wp2;refine bR (.tuple #[.agg #[.int .i64 0,.int .i64 0,.string ⟨#[]⟩],.int .i64 2]) ?_;unfold eE;rw[HV.o];exact⟨rfl,((HB1.o.setCell (lR _) _).setCell (lR _) _).setCell (lR _) _⟩):p:=h
def eE(r:V3×Int)(w:World)(e:Ending)(w':World):Prop:=e=.returned (.tuple #[dC r.1,.int .i64 r.2])/\Below w.heap.size w w'
theorem iV{w:World}{ok:nP}{a:oD}{n c:Nat}{x y:V3}(h:aH VR w ok (.slice a n c) [x,y]):∃b off,a=some ⟨b,off,none⟩/\b<w.heap.size/\cS x/\cS y/\n=2:=by
 obtain⟨b,off,r,e,_,h1,⟨_,g1⟩,_⟩:=aH.at bG (k:=0) h qs qe;obtain⟨_,_,i,_,_,_,⟨_,g2⟩,_⟩:=aH.at bG (k:=1) h qs qe;obtain⟨f,g,d,_⟩:=h.slice;injection d with _ d _;exact⟨b,off,e,h1,g1,g2,d⟩
theorem nE{w:World}{ok:nP}{b off n c:Nat}{x y:V3}(h:aH VR w ok (.slice (some ⟨b,off,none⟩) n c) [x,y]):
 w.cell? ⟨b,off,none⟩=some (.int .i64 x.1)/\w.cell? ⟨b,off+1,none⟩=some (.int .i64 x.2.1)/\w.cell? ⟨b,off+2,none⟩=some (.string x.2.2)/\
 w.cell? ⟨b,off+3,none⟩=some (.int .i64 y.1)/\w.cell? ⟨b,off+3+1,none⟩=some (.int .i64 y.2.1)/\w.cell? ⟨b,off+3+2,none⟩=some (.string y.2.2):=by
 obtain⟨b1,v,r,e,_,h1,⟨rfl,g1⟩,s⟩:=aH.at bG (k:=0) h qs qe;obtain⟨b2,z,A,a,_,_,⟨rfl,g2⟩,t⟩:=aH.at bG (k:=1) h qs qe;injection e with e;injection e with m o _;injection a with a;injection a with p q _;subst m o p q;obtain⟨d,f,g⟩:=cR3 s;obtain⟨i,j,l⟩:=cR3 t;simp only[Nat.zero_mul,Nat.one_mul,Nat.add_zero,List.getElem_cons_zero,List.getElem_cons_succ] at d f g i j l;exact⟨d,f,g,i,j,l⟩
theorem LJ{w:World}{ok:nP}{a:oD}{n c:Nat}{x:V3}(h:aH VR w ok (.slice a n c) [x]):∃b off,a=some ⟨b,off,none⟩/\b<w.heap.size/\cS x/\n=1:=by
 obtain⟨b,off,r,e,_,h1,⟨_,g1⟩,_⟩:=aH.at bG (k:=0) h qs qe;obtain⟨f,g,d,_⟩:=h.slice;injection d with _ d _;exact⟨b,off,e,h1,g1,d⟩
theorem FQ{w:World}{ok:nP}{b off n c:Nat}{x:V3}(h:aH VR w ok (.slice (some ⟨b,off,none⟩) n c) [x]):
 w.cell? ⟨b,off,none⟩=some (.int .i64 x.1)/\w.cell? ⟨b,off+1,none⟩=some (.int .i64 x.2.1)/\w.cell? ⟨b,off+2,none⟩=some (.string x.2.2):=by
 obtain⟨b1,l,r,e,_,h1,⟨rfl,g1⟩,j⟩:=aH.at bG (k:=0) h qs qe;injection e with e;injection e with g i _;subst g i;obtain⟨a,d,f⟩:=cR3 j;simp only[Nat.zero_mul,Nat.add_zero,List.getElem_cons_zero] at a d f;exact⟨a,d,f⟩
theorem JU{f:FuncId}{args:Array Value}{w:World}{n:Nat}{r:Int×Int}(h:Calls prog f args (w.drewN n) (vY r (w.drewN n))):Calls prog f args (w.drewN n) fun e w'=>e=.returned (.tuple #[.int .i64 r.1,.int .i64 r.2])/\∃m,w'=w.drewN m:=SD h
theorem Ep{ok:nP}(v:Value)(x y:V3)(w:World)(h:aH VR w ok v [x,y]):Calls prog 290 #[.func (.func 291) #[] #[],v] w (eE (eK tD x y) w):=by
 have HB0:=aA (aB w (.cells fW 30));have B0:=aA (aK w (.cells fW 30) _ rfl);have HA:=aA (tM 2 v [x,y] _ (h.on bG HB0.o));have k:=aA h;obtain⟨a,c,rfl,_⟩:=h.slice;obtain⟨b,off,rfl,m,g,i,_⟩:=iV h;clear h;unfold aP at HA;have e:[x,y].all (fun z=>decide (z.1=2))=(decide (x.1=2)&&decide (y.1=2)):=by simp
 rw[e] at HA;clear e;by_cases hk:x.1=2/\y.1=2
 case neg=>
  have e:(decide (x.1=2)&&decide (y.1=2))=false:=by
   exact QBB
  rw[e] at HA;have HV:Hid (eK tD x y=(aY,2)):=aA (iP (by
   by_cases h1:x.1=2
   .exact .inr (fun h2=>hk ⟨h1,h2⟩)
   .exact .inl h1))
  exact QAE
 rw[dX hk.1,dX hk.2,Bool.and_true] at HA;have j:=aA (fun w'=>Qw x.2.1 y.2.1 g.2.1 i.2.1 w');have HV:Hid (eK tD x y=if (tD x.2.1 y.2.1).2≠0 then (aY,(tD x.2.1 y.2.1).2) else ((2,(tD x.2.1 y.2.1).1,ByteArray.empty),0)):=aA (iN (fun h=>h.elim (fun h=>h hk.1) (fun h=>h hk.2)));generalize tD x.2.1 y.2.1=r at *;obtain⟨n,f⟩:=r;clear hk g i;go_enter func290,ntmps290;go_wp2_with fail;refine HA.o.mono ?_;rintro e w1 ⟨rfl,hb_⟩;have HB1:=qB HB0 hb_;have l:=aA (k.o.on bG HB1.o);obtain⟨o,q,s,t,A,B⟩:=nE l.o;replace B0:=qK B0 hb_;obtain⟨⟨B00,B01,B02⟩,_⟩:=cF B0.o;have zB0:=aD B0.o;clear hb_ HA;go_wp2;go_quiet ((go_at_call 291;exact JU (j.o _)))
 by_cases he:f=0
 .have d:(f != 0)=false:=by rw[he];rfl
  have HV2:Hid (eK tD x y=((2,n,ByteArray.empty),0)):=aA (by have:=HV.o;rwa [iN (fun h=>h he)] at this);clear he HV;go_wp2;refine bR (.tuple #[.agg #[.int .i64 2,.int .i64 n,.string ⟨#[]⟩],.int .i64 0]) ?_;exact Bs
 .have d:(f != 0)=true:=bne_iff_ne.2 he;have HV2:Hid (eK tD x y=(aY,f)):=aA (by have:=HV.o;rwa [iP he] at this);clear he HV;go_wp2;refine bR (.tuple #[.agg #[.int .i64 0,.int .i64 0,.string ⟨#[]⟩],.int .i64 f]) ?_;exact Bs
theorem Er{ok:nP}(v:Value)(x y:V3)(w:World)(h:aH VR w ok v [x,y]):Calls prog 290 #[.func (.func 292) #[] #[],v] w (eE (eK tE x y) w):=by
 have HB0:=aA (aB w (.cells fW 30));have B0:=aA (aK w (.cells fW 30) _ rfl);have HA:=aA (tM 2 v [x,y] _ (h.on bG HB0.o));have k:=aA h;obtain⟨a,c,rfl,_⟩:=h.slice;obtain⟨b,off,rfl,m,g,i,_⟩:=iV h;clear h;unfold aP at HA;have e:[x,y].all (fun z=>decide (z.1=2))=(decide (x.1=2)&&decide (y.1=2)):=by simp
 rw[e] at HA;clear e;by_cases hk:x.1=2/\y.1=2
 case neg=>
  have e:(decide (x.1=2)&&decide (y.1=2))=false:=by
   exact QBB
  rw[e] at HA;have HV:Hid (eK tE x y=(aY,2)):=aA (iP (by
   by_cases h1:x.1=2
   .exact .inr (fun h2=>hk ⟨h1,h2⟩)
   .exact .inl h1))
  exact QAE
 rw[dX hk.1,dX hk.2,Bool.and_true] at HA;have j:=aA (fun w'=>Qx x.2.1 y.2.1 g.2.1 i.2.1 w');have HV:Hid (eK tE x y=if (tE x.2.1 y.2.1).2≠0 then (aY,(tE x.2.1 y.2.1).2) else ((2,(tE x.2.1 y.2.1).1,ByteArray.empty),0)):=aA (iN (fun h=>h.elim (fun h=>h hk.1) (fun h=>h hk.2)));generalize tE x.2.1 y.2.1=r at *;obtain⟨n,f⟩:=r;clear hk g i;go_enter func290,ntmps290;go_wp2_with fail;refine HA.o.mono ?_;rintro e w1 ⟨rfl,hb_⟩;have HB1:=qB HB0 hb_;have l:=aA (k.o.on bG HB1.o);obtain⟨o,q,s,t,A,B⟩:=nE l.o;replace B0:=qK B0 hb_;obtain⟨⟨B00,B01,B02⟩,_⟩:=cF B0.o;have zB0:=aD B0.o;clear hb_ HA;go_wp2;go_quiet ((go_at_call 292;exact JU (j.o _)))
 by_cases he:f=0
 .have d:(f != 0)=false:=by rw[he];rfl
  have HV2:Hid (eK tE x y=((2,n,ByteArray.empty),0)):=aA (by have:=HV.o;rwa [iN (fun h=>h he)] at this);clear he HV;go_wp2;refine bR (.tuple #[.agg #[.int .i64 2,.int .i64 n,.string ⟨#[]⟩],.int .i64 0]) ?_;exact Bs
 .have d:(f != 0)=true:=bne_iff_ne.2 he;have HV2:Hid (eK tE x y=(aY,f)):=aA (by have:=HV.o;rwa [iP he] at this);clear he HV;go_wp2;refine bR (.tuple #[.agg #[.int .i64 0,.int .i64 0,.string ⟨#[]⟩],.int .i64 f]) ?_;exact Bs
theorem Es{ok:nP}(v:Value)(x y:V3)(w:World)(h:aH VR w ok v [x,y]):Calls prog 290 #[.func (.func 293) #[] #[],v] w (eE (eK mN x y) w):=by
 have HB0:=aA (aB w (.cells fW 30));have B0:=aA (aK w (.cells fW 30) _ rfl);have HA:=aA (tM 2 v [x,y] _ (h.on bG HB0.o));have k:=aA h;obtain⟨a,c,rfl,_⟩:=h.slice;obtain⟨b,off,rfl,m,g,i,_⟩:=iV h;clear h;unfold aP at HA;have e:[x,y].all (fun z=>decide (z.1=2))=(decide (x.1=2)&&decide (y.1=2)):=by simp
 rw[e] at HA;clear e;by_cases hk:x.1=2/\y.1=2
 case neg=>
  have e:(decide (x.1=2)&&decide (y.1=2))=false:=by
   exact QBB
  rw[e] at HA;have HV:Hid (eK mN x y=(aY,2)):=aA (iP (by
   by_cases h1:x.1=2
   .exact .inr (fun h2=>hk ⟨h1,h2⟩)
   .exact .inl h1))
  exact QAE
 rw[dX hk.1,dX hk.2,Bool.and_true] at HA;have j:=aA (fun w'=>Ra x.2.1 y.2.1 g.2.1 i.2.1 w');have HV:Hid (eK mN x y=if (mN x.2.1 y.2.1).2≠0 then (aY,(mN x.2.1 y.2.1).2) else ((2,(mN x.2.1 y.2.1).1,ByteArray.empty),0)):=aA (iN (fun h=>h.elim (fun h=>h hk.1) (fun h=>h hk.2)));generalize mN x.2.1 y.2.1=r at *;obtain⟨n,f⟩:=r;clear hk g i;go_enter func290,ntmps290;go_wp2_with fail;refine HA.o.mono ?_;rintro e w1 ⟨rfl,hb_⟩;have HB1:=qB HB0 hb_;have l:=aA (k.o.on bG HB1.o);obtain⟨o,q,s,t,A,B⟩:=nE l.o;replace B0:=qK B0 hb_;obtain⟨⟨B00,B01,B02⟩,_⟩:=cF B0.o;have zB0:=aD B0.o;clear hb_ HA;go_wp2;go_quiet ((go_at_call 293;exact JU (j.o _)))
 by_cases he:f=0
 .have d:(f != 0)=false:=by rw[he];rfl
  have HV2:Hid (eK mN x y=((2,n,ByteArray.empty),0)):=aA (by have:=HV.o;rwa [iN (fun h=>h he)] at this);clear he HV;go_wp2;refine bR (.tuple #[.agg #[.int .i64 2,.int .i64 n,.string ⟨#[]⟩],.int .i64 0]) ?_;exact Bs
 .have d:(f != 0)=true:=bne_iff_ne.2 he;have HV2:Hid (eK mN x y=(aY,f)):=aA (by have:=HV.o;rwa [iP he] at this);clear he HV;go_wp2;refine bR (.tuple #[.agg #[.int .i64 0,.int .i64 0,.string ⟨#[]⟩],.int .i64 f]) ?_;exact Bs
end Go.Proofs.YthcgdgkpgdjahaaGreatDoor
