/- Lemmas. -/
import Derived.Test.YtbinmcabjnoliaaGreatDoorMbb
import Derived.Maps.OwnOps
import Derived.Maps.OwnSet
namespace Go.Proofs.YtbinmcabjnoliaaGreatDoor
open Go.RowKit
set_option linter.unusedVariables false
set_option linter.unusedSimpArgs false
set_option maxHeartbeats 16000000
open _root_.Go.Proofs.Tryz
set_option maxRecDepth 20000
theorem Yk{p:Prop}(h:p:=by
 go_wp2;go_returns;rw[HE.o];exact⟨_,rfl,HB.o.mono hbase,aM.nil⟩):p:=h
theorem Su:dV prog 346 4 1 1:=fQ (z:= .bool false) underlying346 (by kernel_rfl) rfl qe
def JB(l:List Bool)(n:No)(base:Nat)(w:World)(e:Ending)(w':World):Prop:=
 ∃v,e=.returned (.tuple #[v,.bool (lA l n).isSome])/\Below base w w'/\aM DC 1 4 w' base (fun _=>True) v ((lA l n).getD [])
theorem Ds{l m:List Bool}{a k:Nat}(h1:a+k<l.length)(h2:k<m.length):(l.drop (a+k)=m.drop k)↔(l[a+k]=m[k]/\l.drop (a+(k+1))=m.drop (k+1)):=by
 rw[List.drop_eq_getElem_cons h1,List.drop_eq_getElem_cons h2,List.cons.injEq];rfl
theorem Dt{l:List Bool}{n:No}(h:mO n.op=none):lA l n=none:=by unfold lA;rw[h]
theorem DQ{l m:List Bool}{n:No}(h:mO n.op=some m)(h2:¬(qO n=true/\m.length<=l.length/\l.drop (l.length - m.length)=m)):lA l n=none:=by unfold lA;rw[h];exact iN h2
theorem Du{l m:List Bool}{n:No}{q:Nat}(a:l.length=q+m.length)(h:mO n.op=some m)(h1:qO n=true)(h2:l.drop q=m):lA l n=some (l.take q++[decide (n.op=2)]):=by
 have e:l.length - m.length=q:=qo;unfold lA;rw[h];simp only[e];exact iP ⟨h1,qo,h2⟩
theorem JC(v:Value)(l:List Bool)(n:No)(ag:oO n)(base:Nat)(w:World)(h:aM DC 1 4 w base (fun _=>True) v l)(au:l.length<=100)(hbase:base<=w.heap.size):Calls prog 250 #[v,jJ n] w (JB l n base w):=by
 obtain⟨a,c,rfl⟩:=h.slice;have G:=aA h;have N:=aA (fun w=>Jh n.op w);have K:=aA (fun w=>Dr n ag w);unfold DP at N;unfold aO jJ at K;unfold JB jJ;have B0:=aA (aK w (.cells (iR n) 294) _ rfl);have ad:=aA (aB w (.cells (iR n) 294));clear h;go_enter func250,ntmps250;go_wp2_with fail;refine(N.o _).mono ?_;rintro e w1 ⟨wv,rfl,o,ab⟩;obtain⟨C,HB,y⟩:=aY (aE B0.o o) (aC ad.o o) ab;obtain⟨⟨x0,x1,x2,x3,x4,x5,x6⟩,_⟩:=bJ C.o;have hz:=aD C.o;clear o ab N
 cases hw:mO n.op with
 |none=>
  have HE:=aA (Dt (l:=l) hw);simp only[Option.isSome_none];clear hw;exact Yk
 |some m=>
  simp only[Option.isSome_some];rw[hw] at y;simp only[Option.getD_some] at y;go_wp2_with fail;refine(K.o _).mono ?_;rintro e w2 ⟨rfl,o⟩;obtain⟨HB,D,y⟩:=aY (aC HB.o o) (aE C.o o) (y.o.on jN o);clear x0 x1 x2 x3 x4 x5 x6 hz C o K;obtain⟨⟨x0,x1,x2,x3,x4,x5,x6⟩,_⟩:=bJ D.o;have hz:=aD D.o;obtain⟨wa,wc,rfl,av⟩:=y.o.slice
  cases B:qO n with
  |false=>
   have HE:=aA (DQ (l:=l) hw (fun h=>by rw[B] at h;exact absurd h.1 qe));clear hw B;exact Yk
  |true=>
   by_cases hlen:l.length<m.length
   .have HE:=aA (DQ (l:=l) hw (fun h=>by omega));have d:decide ((l.length:Int)<(m.length:Int))=true:=dX qo;clear hw B;exact Yk
   obtain⟨q,Q⟩:∃q,l.length=q+m.length:=⟨l.length - m.length,qo⟩;have d:decide ((l.length:Int)<(m.length:Int))=false:=dF qo;have d2:IntKind.i64.wrap ((l.length:Int) - (m.length:Int))=(q:Int):=by rw[IntWalk.i64_in _ qo];omega
   have E:=aA (fun (hd:¬(l.drop q=m))=>DQ (l:=l) (n:=n) hw (fun h=>by rw[show l.length - m.length=q by omega] at h;exact hd h.2.2));have H:=aA (Du Q hw B);have f:=aA Q;clear hw B Q;obtain⟨res,R⟩:∃res:Prop,res=(l.drop q=m):=⟨_,rfl⟩;rw[<-R] at E H;have af:Hid (aH DC w2 (fun _=>True) (.slice a l.length c) l):=aA ((G.o.on jN HB.o).sl qo _ (fun _ _ _=>trivial) (fun _ _ _=>trivial) jN);have V:Hid ((l.drop (q+0)=m.drop 0)=res):=aA (by rw[Nat.add_zero,List.drop_zero];exact R.symm);clear R;have d3:wrap64 ((l.length:Int) - (m.length:Int))=(q:Int):=by have:=f.o;rw[IntWalk.wrap64_in _ qo];omega
   go_wp2;go_loopw [38] (fun i wr=>∃k:Nat,k<=m.length/\i=.int .i64 k/\Hid ((l.drop (q+k)=m.drop k)=res)/\wr=w2) (fun i _=>m.length - (intOf i).toNat)
   case atStart=>exact⟨0,Nat.zero_le _,rfl,V,rfl⟩
   case round=>
    clear V;obtain⟨k,hk,rfl,x,rfl⟩:=hrel;by_cases Z:k<m.length
    .have ai:(k:Int)<(m.length:Int):=qo;obtain⟨j,hj⟩:=xE (q+k);have ah:j<l.length:=qA f.o;have aq:(j:Int)<(l.length:Int):=qo;have ao:(0:Int)<=(j:Int):=qo;have e1:IntKind.i64.wrap ((q:Int)+(k:Int))=(j:Int):=by rw[IntWalk.i64_in _ qo];omega
     obtain⟨b,off,r,rfl,_,ak,⟨rfl,_⟩,X⟩:=aH.at jN y.o Z qe;have y0:=X 0 _ rfl;rw[Nat.add_zero,Nat.mul_one] at y0;obtain⟨b',aw,r,rfl,_,al,⟨rfl,_⟩,Y⟩:=aH.at jN af.o ah qe;have z0:=Y 0 _ rfl;rw[Nat.add_zero,Nat.mul_one] at z0;have s:=aA (Ds (l:=l) (m:=m) (a:=q) (k:=k) (qA f.o) Z);have U:=aA (fun (hx:q+k<l.length)=>(by subst hj;rfl:l[q+k]=l[j]));clear X Y;rw[U.o _] at s;clear U;generalize l[j]=u at *;generalize m[k]=t at *;by_cases S:u=t
     .subst S;have ae:Hid ((l.drop (q+(k+1))=m.drop (k+1))=res):=aA (by rw[<-x.o];exact propext ⟨fun h=>s.o.2 ⟨rfl,h⟩,fun h=>(s.o.1 h).2⟩);clear s x hj
      cases u
      all_goals
       go_wp2;go_roundw
       case rel=>exact⟨k+1,qo,by go_num,ae,by trivial⟩
       case measure=>simp[intOf];omega
     .have HE:=aA (E.o (by rw[<-x.o];exact fun h=>S (s.o.1 h).1));clear s x hj E H
      cases u<;>cases t
      all_goals first
       |exact absurd rfl S
       |(go_wp2
         go_returns;rw[HE.o];exact⟨_,rfl,HB.o.mono hbase,aM.nil⟩)
    .have ai:¬(k:Int)<(m.length:Int):=qo;have hr:res:=by rw[<-x.o,List.drop_eq_nil_of_le (qA f.o),List.drop_eq_nil_of_le qo]
     have HE:=aA (H.o hr);clear x hr E H;obtain⟨aj,ar,an⟩:=G.o.place;have HC:=aA ((G.o.on jN HB.o).cut jN q (qA f.o));have g:=aA ((aB wr (.cells #[.bool (n.op==2)] 4)).drew);have W:Hid ((wr.alloc (.cells #[.bool (n.op==2)] 4)).drew.heap[wr.heap.size]? =some (.cells #[.bool (n.op==2)] 4 (0,0))):=aA (aK wr (.cells #[.bool (n.op==2)] 4) _ rfl);have F:=aA (HC.o.on jN g.o);have I:base<=wr.heap.size:=lT hbase HB.o.size;have aa:(l.take q).length=q:=by have:=f.o;rw[List.length_take];omega
     have q0:(0:Int)<=(q:Int):=qo;have q1:(q:Int)<=(c:Int):=qA f.o;have q2:(q:Int)<=(l.length:Int):=qA f.o;have T:=aA ((aC HB.o g.o).mono hbase)
     rcases aj with ⟨rfl,rfl⟩|⟨ga,rfl⟩
     .obtain rfl:l=[]:=List.eq_nil_of_length_eq_zero qo;obtain rfl:q=0:=by have:=f.o;simp only[List.length_nil] at this;omega
      have z:=qK D g.o;have M:Hid (some w.heap.size≠(Value.slice none 0 0).ownBlock):=aA (fun h=>(by cases (show some w.heap.size=none from h)));go_wp2;go_region_held3 (fun w'=>w'.cell? ⟨w.heap.size,0,none⟩=some (.int .i64 n.op)) (first|go_keep|assumption) ((refine iX Su jN (by rfl) (.tmp 54) (.tmp 58) (by rfl) _ (([]:List Bool).take 0) (by rfl) F.o wr.heap.size 1 _ _ _ (n.op==2) (by rfl) W.o ⟨rfl,trivial⟩ (by rw[aa];omega) qe (lT I g.o.size) ?_;intro l' P A' c' w9 A p O;have L:=aA A;have J:=aA (F.o.below T.o p (lR _) (lT I g.o.size));have x9:=(bJ ((p.block w.heap.size (aD z.o) M.o).trans z.o)).1.1;clear A p O))
      go_wp2;go_returns;rw[HE.o,<-MT,<-P.o];exact⟨_,rfl,J.o,L.o⟩
     .have z:=qK D g.o;have M:Hid (some w.heap.size≠(Value.slice (some ⟨ga,0,none⟩) q c).ownBlock):=aA (fun h=>qA ((G.o.lt w.heap.size h.symm).2));go_wp2;go_region_held3 (fun w'=>w'.cell? ⟨w.heap.size,0,none⟩=some (.int .i64 n.op)) (first|go_keep|assumption) ((refine iX Su jN (by rfl) (.tmp 54) (.tmp 58) (by rfl) _ (l.take q) (by rfl) F.o wr.heap.size 1 _ _ _ (n.op==2) (by rfl) W.o ⟨rfl,trivial⟩ (by rw[aa];omega) qe (lT I g.o.size) ?_;intro l' P A' c' w9 A p O;have L:=aA A;have J:=aA (F.o.below T.o p (lR _) (lT I g.o.size));have x9:=(bJ ((p.block w.heap.size (aD z.o) M.o).trans z.o)).1.1;clear A p O))
      go_wp2;go_returns;rw[HE.o,<-MT,<-P.o];exact⟨_,rfl,J.o,L.o⟩
theorem Sv{p:Prop}(h:p:=by
 go_wp2;go_returns;exact⟨by rw[HV.o];rfl,HB.o⟩):p:=h
theorem Ji{l r:List Bool}{n:No}(h:lA l n=some r):r.length<=l.length+1:=by
 unfold lA at h
 cases hw:mO n.op with
 |none=>rw[hw] at h;cases h
 |some m=>
  rw[hw] at h;simp only at h;by_cases a:qO n=true/\m.length<=l.length/\l.drop (l.length - m.length)=m
  .rw[iP a] at h;injection h with h;rw[<-h,aL,List.length_take,List.length_singleton];omega
  .rw[iN a] at h;cases h
theorem Jj{l:List No}{lm:List Bool}{res:Option (List Bool)}(h:iM (l.drop l.length) lm=res):res=some lm:=by
 rw[<-h,List.drop_length];rfl
theorem Dv{l:List No}{k:Nat}{lm:List Bool}{res:Option (List Bool)}(a:k<l.length)(h:iM (l.drop k) lm=res)(h1:lA lm l[k]=none):res=none:=by
 rw[<-h,List.drop_eq_getElem_cons a];simp only[iM,h1]
theorem Dw{l:List No}{k:Nat}{lm r:List Bool}{res:Option (List Bool)}(a:k<l.length)(h:iM (l.drop k) lm=res)(h1:lA lm l[k]=some r):iM (l.drop (k+1)) r=res:=by
 rw[<-h,List.drop_eq_getElem_cons a];simp only[iM,h1]
def EZ(n:Nat):Option (List Bool)->Int
 |none=>1
 |some made=>if 0<n/\made≠[false] then 1 else 0
theorem Dx(l:List No):lB l=if 32<l.length then 6 else EZ l.length (iM l []):=by
 unfold lB EZ
 cases iM l []<;>rfl
theorem GM{ok:nP}(v:Value)(l:List No)(w:World)(h:aH JN w ok v l):Calls prog 227 #[v] w (aO (.int .i64 (lB l)) w):=by
 obtain⟨a,c,rfl,T⟩:=h.slice;have M:=aA h;clear h;unfold aO;rw[Dx];by_cases h0:32<l.length
 .rw[iP h0];have d:decide ((l.length:Int) > 32)=true:=dX qo;clear h0;go_enter func227,ntmps227;exact FX
 rw[iN h0];have d:decide ((l.length:Int) > 32)=false:=dF qo;have S:l.length<=32:=qo;clear h0;obtain⟨res,z⟩:=xE (iM l []);rw[<-z];have B:Hid (iM (l.drop 0) []=res):=aA (by rw[List.drop_zero];exact z.symm);clear z;go_enter func227,ntmps227;go_wp2;go_loopw [3,12] (fun vm i wr=>∃(k:Nat) (lm:List Bool),k<=l.length/\lm.length<=k/\i=.int .i64 k/\Hid (iM (l.drop k) lm=res)/\Hid (aM DC 1 4 wr w.heap.size (fun _=>True) vm lm)/\Hid (Below w.heap.size w wr)) (fun vm i _=>l.length - (intOf i).toNat)
 case atStart=>exact⟨0,[],Nat.zero_le _,Nat.zero_le _,rfl,B,aA aM.nil,aA (Below.refl _ _)⟩
 case round=>
  clear B;obtain⟨k,lm,R,U,rfl,g,p,HB⟩:=hrel;by_cases y:k<l.length
  .have P:(k:Int)<(l.length:Int):=qo;obtain⟨b,off,r,rfl,_,O,⟨rfl,D⟩,m⟩:=aH.at dP (M.o.on dP HB.o) y qe;obtain⟨o,E,F,G,H,I,J⟩:=CH m;rw[Nat.add_zero] at o;have s:=aA (fun h1=>Dv y g.o h1);have t:=aA (fun r h1=>Dw (r:=r) y g.o h1);have f:=aA (JC _ lm l[k] D w.heap.size _ (p.o.on jN (aB wr (.cells #[.int .i64 l[k].op,.int .i64 l[k].val.1,.int .i64 l[k].val.2.1,.string l[k].val.2.2,.int .i64 l[k].aDg.cat,.string l[k].aDg.name,.bool l[k].aDg.aDq] 294))) qo (by rw[World.size_alloc];exact lT HB.o.size (Nat.le_succ _)));unfold JB jJ at f;clear m g D;generalize l[k]=n at *
   cases he:lA lm n with
   |none=>
    have HE:=aA (s.o he);rw[he] at f;simp only[Option.isSome_none,Option.getD_none] at f;clear s t he;go_wp2_with fail;refine f.o.mono ?_;rintro e w2 ⟨v2,rfl,j,q⟩;have HB2:=aA ((HB.o.alloc HB.o.size (.cells (iR n) 294)).trans j);clear j q f o E F G H I J;exact FY
   |some r=>
    have L:=aA (t.o r he);have V:=Ji he;rw[he] at f;simp only[Option.isSome_some,Option.getD_some] at f;clear s t he;go_wp2_with fail;refine f.o.mono ?_;rintro e w2 ⟨v2,rfl,j,q⟩;have HB2:=aA ((HB.o.alloc HB.o.size (.cells (iR n) 294)).trans j);have K:=aA q;clear j q f o E F G H I J;go_wp2;go_roundw
    case rel=>exact⟨k+1,r,qo,qo,by go_num,L,K,HB2⟩
    case measure=>simp[intOf];omega
  .have P:¬(k:Int)<(l.length:Int):=qo;obtain rfl:k=l.length:=qo;obtain rfl:=Jj g.o;clear g;obtain⟨W,vc,rfl⟩:=p.o.slice;have C:=aA (p.o.sl qo (fun _=>True) (fun _ _ _=>trivial) (fun _ _ _=>trivial) jN);by_cases A:0<l.length
   .have Q:(0:Int)<(l.length:Int):=qo;by_cases h1:lm.length=1
    .obtain⟨x,rfl⟩:∃x,lm=[x]:=List.length_eq_one_iff.1 h1;obtain⟨b,off,r,rfl,_,O,⟨rfl,_⟩,m⟩:=aH.at jN (k:=0) C.o (Nat.lt_succ_self _) qe;have o:=m 0 _ rfl;simp only[Nat.zero_mul,Nat.add_zero,List.getElem_cons_zero] at o;clear m;have N:(([x]:List Bool).length)=1:=rfl;rw[N] at p C ⊢
     cases x
     .have HV:Hid (EZ l.length (some [false])=0):=aA (iN qs);exact Sv
     .have HV:Hid (EZ l.length (some [true])=1):=aA (iP ⟨A,qs⟩);exact Sv
    .have HV:Hid (EZ l.length (some lm)=1):=aA (iP ⟨A,fun h=>h1 (by rw[h];rfl)⟩);have h2:¬(lm.length:Int)=1:=qo;have h3:((lm.length:Int) != 1)=true:=bne_iff_ne.2 h2;exact Sv
   .have Q:¬(0:Int)<(l.length:Int):=qo;have HV:Hid (EZ l.length (some lm)=0):=aA (iN (fun h=>A h.1));exact Sv
section
open Go.Maps
theorem ND{w w':World}(h:Below w.heap.size w w')(row:Option Nat):w.grownBy w' row:=⟨h.os,h.tape,h.output,h.size,fun k a _=>h.block k a⟩
theorem Dy{s t:bY}(h:s.data.toList=t.data.toList):s=t:=ByteArray.ext (Array.ext' h)
theorem wK:Keyed prog 9:=string_keyed underlying9
theorem DR(w:World):(zeroValue 343).run prog w=.ok (.agg #[]) w:=by kernel_rfl
def NW(w:World)(mb g:Nat)(s:WS):Prop:=
 w.heap[g]? =some (.cells #[.map (some mb),.int .i64 (s.aCT:Nat)] 226 (0,0))/\mb≠g/\∃D:DataW Unit,w.ownsMap prog 9 unitElem mb s.met.length D/\∀t:bY,Maps.has D (.string t.data.toList)=s.met.any (fun u=>decide (u=t))
theorem NW.lt{w:World}{mb g:Nat}{s:WS}(h:NW w mb g s):g<w.heap.size:=(Array.getElem?_eq_some_iff.1 h.1).1
theorem NW.ltm{w:World}{mb g:Nat}{s:WS}(h:NW w mb g s):mb<w.heap.size:=by
 obtain⟨_,_,D,h1,_⟩:=h;exact h1.lt
theorem NW.on{w w':World}{mb g:Nat}{s:WS}(h:NW w mb g s)(a:Below w.heap.size w w'):NW w' mb g s:=by
 have b:=h.lt;obtain⟨h1,h2,D,h3,h4⟩:=h;exact⟨(a.block g b).trans h1,h2,D,h3.kept (ND a none) qs,h4⟩
theorem Vh{l:List ByteArray}{s t:bY}{D:DataW Unit}(h:∀t:bY,Maps.has D (.string t.data.toList)=l.any (fun u=>decide (u=t)))(b:Tidy D):Maps.has (D.put (.string s.data.toList) (.agg [])) (.string t.data.toList)=(s::l).any (fun u=>decide (u=t)):=by
 rw[List.any_cons];by_cases a:s=t
 .subst a;rw[has_put_same (k:= .string s.data.toList) b.isMap True.intro];simp
 .rw[has_put_other (by intro e;injection e with e;exact a (Dy e.symm)),h t,dF a,Bool.false_or]
def oI(w:World)(mb g:Nat)(s:WS)(v:Value)(e:Ending)(w':World):Prop:=e=.returned v/\NW w' mb g s/\aN (fun b=>b≠g/\b≠mb) w w'
theorem AG(n:bY)(d:n.size<=cQ)(mb g:Nat)(s:WS)(hm:s.met.length<=1000000)(w:World)(h:NW w mb g s):Calls prog 224 #[.pointer (some ⟨g,0,none⟩),.string n] w (oI w mb g (gN n s).2 (.bool (gN n s).1)):=by
 have p:=h.lt;have F:=h.ltm;have H:=aA h;obtain⟨h1,h2,D,h3,h4⟩:=h;obtain⟨⟨c0,c1⟩,f0,f1⟩:=fK h1;have f:=aA (fun w=>oP n (by unfold cQ at d;unfold maxLen;omega) w);have i:keyOf prog 9 (.string n)=some (.string n.data.toList):=WideMaps.keyOf_string_mk underlying9 (by unfold cQ at d;unfold maxLen;omega);obtain⟨c,j,a⟩:=aY (h4 n) h3 (aB w (.cells #[] 343));unfold oI gN;by_cases b:s.met.any (fun t=>decide (t=n))=true
 .rw[iP (.inl b)];have A:Maps.has D (.string n.data.toList)=true:=by rw[c.o];exact b
  clear h1 h3 h4 b c d hm;go_enter func224,ntmps224;go_wp2_with (at_lookup;refine wpList_lookup_own_unit _ rfl _ _ 224 rfl 9 343 wK underlying224 (DR _) mb s.met.length D rfl j.o _ (.string n.data.toList) rfl i ?_)
  go_returns;exact⟨rfl,H.o.on a.o,aJ a.o⟩
 have A:Maps.has D (.string n.data.toList)=false:=by rw[c.o];exact eq_false_of_ne_true b
 cases l:eO n
 .rw[iP (.inr rfl)];rw[l] at f;clear h1 h3 h4 b c d hm;go_enter func224,ntmps224;go_wp2_with (first
   |(at_lookup;refine wpList_lookup_own_unit _ rfl _ _ 224 rfl 9 343 wK underlying224 (DR _) mb s.met.length D rfl j.o _ (.string n.data.toList) rfl i ?_)
   |(go_at_call 68;refine(f.o _).mono ?_;rintro e w2 ⟨rfl,rfl⟩))
  go_returns;exact⟨rfl,H.o.on a.o,aJ a.o⟩
 rw[iN (fun h=>h.elim (fun h=>b h) (fun h=>by cases h))];rw[l] at f;obtain⟨B,x,y⟩:=aY (h3.tidy wK) h4 hm;obtain⟨I,G⟩:=xE (w.alloc (.cells #[] 343));obtain⟨v,r,J⟩:=aY (h3.alloc (.cells #[] 343)) (aE h1 a.o) (⟨p,F⟩:g<w.heap.size/\mb<w.heap.size);clear h1 h3 h4 b c d hm l G I;go_enter func224,ntmps224;go_wp2_with (first
  |(at_lookup;refine wpList_lookup_own_unit _ rfl _ _ 224 rfl 9 343 wK underlying224 (DR _) mb s.met.length D rfl j.o _ (.string n.data.toList) rfl i ?_)
  |(go_at_call 68;refine(f.o _).mono ?_;rintro e w2 ⟨rfl,rfl⟩)
  |(at_mapUpdate;refine wpList_mapUpdate_own _ rfl _ _ _ 224 rfl 9 343 wK underlying224 (unitElem (H:=Unit)) mb s.met.length D rfl v.o (by have:=y.o;unfold maxLen;omega) _ _ _ rfl rfl i _ [] unitElem_mk ?_;intro K q o;have z:=aA q;have m:=aA o;clear q o))
 go_returns;have C:=(m.o.block g (lL p a.o.size) (fun e=>h2 (by injection e with e;exact e.symm))).trans r.o;refine⟨rfl,⟨C,h2,_,z.o,fun t=>Vh x.o B.o⟩,?_⟩;exact(aJ a.o).trans ((cW m.o).mono fun k _ E=>fun e=>E.2 (by injection e))
end
theorem xY(n:bY)(s:WS):(gN n s).2.aCT=s.aCT:=by
 unfold gN;by_cases h:s.met.any (fun t=>decide (t=n))=true\/eO n=false
 .rw[iP h]
 .rw[iN h]
theorem PF(n:bY)(s:WS):(gN n s).2.met.length<=s.met.length+1:=by
 unfold gN;by_cases h:s.met.any (fun t=>decide (t=n))=true\/eO n=false
 .rw[iP h];exact Nat.le_succ _
 .rw[iN h];exact lR _
theorem Jk{r:Ru}{s s1:WS}(h:gN r.id s=(false,s1)):fS r s=(1,s1):=by
 unfold fS;rw[h];rfl
theorem Dz{r:Ru}{s s1:WS}(h:gN r.id s=(true,s1))(h1:64<s1.aCT+1):fS r s=(6,{s1 with aCT:=s1.aCT+1}):=by
 unfold fS;rw[h];simp only[Bool.true_eq_false,if_false,iP h1]
theorem VC{r:Ru}{s s1:WS}(h:gN r.id s=(true,s1))(h1:¬64<s1.aCT+1)(h2:eX r.aC1≠0):fS r s=(eX r.aC1,{s1 with aCT:=s1.aCT+1}):=by
 unfold fS;rw[h];simp only[Bool.true_eq_false,if_false,iN h1,iP h2]
theorem Ea{r:Ru}{s s1:WS}(h:gN r.id s=(true,s1))(h1:¬64<s1.aCT+1)(h2:eX r.aC1=0)(h3:lB r.cond≠0):fS r s=(lB r.cond,{s1 with aCT:=s1.aCT+1}):=by
 unfold fS;rw[h];simp only[Bool.true_eq_false,if_false,iN h1,h2,ne_eq,not_true_eq_false,iP h3]
theorem Eb{r:Ru}{s s1:WS}(h:gN r.id s=(true,s1))(h1:¬64<s1.aCT+1)(h2:eX r.aC1=0)(h3:lB r.cond=0):fS r s=(lC r.aC7,{s1 with aCT:=s1.aCT+1}):=by
 unfold fS;rw[h];simp only[Bool.true_eq_false,if_false,iN h1,h2,h3,ne_eq,not_true_eq_false]
theorem NW.more{w:World}{mb g q:Nat}{s:WS}(h:NW w mb g s)(b:q=s.aCT+1):NW (w.setCell ⟨g,1,none⟩ (.int .i64 (q:Nat))) mb g {s with aCT:=s.aCT+1}:=by
 obtain⟨h1,h2,D,h3,h4⟩:=h;subst b;refine⟨aG h1 1 _,h2,D,?_,h4⟩;exact h3.kept (row:=some g) ⟨rfl,rfl,rfl,by simp[World.setCell],fun k c a=>Below.heap_setCell _ _ _ _ (fun e=>a (by rw[e]))⟩ (fun e=>h2 (by injection e))
theorem iD{w:World}{g mb i:Nat}(v:Value):aN (fun b=>b≠g/\b≠mb) w (w.setCell ⟨g,i,none⟩ v):=(aI v).mono fun k _ h=>h.1
theorem Jl{ok:nP}(r:Ru)(vt vc vo:Value)(mb g:Nat)(s:WS)(hm:s.met.length<=1000000)(hr:s.aCT<=1000000)(w:World)(h:NW w mb g s)(hp:rN w ok r vt vc vo)(ho:∀b,ok b->b≠g/\b≠mb):Calls prog 186 #[.pointer (some ⟨g,0,none⟩),.agg #[.string r.id,.bool r.aDs,vt,vc,vo]] w (oI w mb g (fS r s).2 (.int .i64 (fS r s).1)):=by
 have ai:=h.lt;have aj:=h.ltm;obtain⟨Y,Z,rfl,_⟩:=hp.2.1.slice;obtain⟨T,U,rfl,_⟩:=hp.2.2.1.slice;obtain⟨W,X,rfl,_⟩:=hp.2.2.2.slice;obtain⟨n,p,t,v,D⟩:=gC (AG r.id hp.1 mb g s hm _ (h.on (aB w (.cells #[.string r.id,.bool r.aDs,.slice Y r.aC1.length Z,.slice T r.cond.length U,.slice W r.aC7.length X] 269)))) (aK w (.cells #[.string r.id,.bool r.aDs,.slice Y r.aC1.length Z,.slice T r.cond.length U,.slice W r.aC7.length X] 269) _ rfl) (aB w (.cells #[.string r.id,.bool r.aDs,.slice Y r.aC1.length Z,.slice T r.cond.length U,.slice W r.aC7.length X] 269)) hp ho;have ad:=xY r.id s;unfold oI;unfold oI at n;obtain⟨ah,s1,o⟩:∃a b,gN r.id s=(a,b):=⟨_,_,rfl⟩;rw[o] at n ad;simp only at n ad;clear h hp ho
 cases ah
 .rw[Jk o];simp only;clear o;go_enter func186,ntmps186;go_wp2_with fail;refine n.o.mono ?_;rintro e w1 ⟨rfl,f,j⟩;have k:=qS p j ⟨qo,qo⟩;have m:=aA ((aJ t.o).trans j);have F:=aA (v.o.aC0 (m.o.mono fun b _ l=>D.o b l));obtain⟨⟨y,z,A,B,C⟩,_⟩:=cP k.o;have x:=aD k.o;have V:=f.lt;have E:=aA f;obtain⟨⟨c0,c1⟩,f0,f1⟩:=fK f.1;clear f j n v p t;go_wp2;go_returns;exact⟨rfl,E.o,m.o⟩
 obtain⟨q,hq⟩:=xE (s1.aCT+1);have e1:IntKind.i64.wrap ((s1.aCT:Int)+1)=(q:Int):=by rw[IntWalk.i64_in _ qo];omega
 have H:=aA hq;clear hq ad;by_cases h64:64<q
 .rw[Dz o (qA H.o)];simp only;clear o;have d:decide ((q:Int) > 64)=true:=dX qo;go_enter func186,ntmps186;go_wp2_with fail;refine n.o.mono ?_;rintro e w1 ⟨rfl,f,j⟩;have k:=qS p j ⟨qo,qo⟩;have m:=aA ((aJ t.o).trans j);have F:=aA (v.o.aC0 (m.o.mono fun b _ l=>D.o b l));obtain⟨⟨y,z,A,B,C⟩,_⟩:=cP k.o;have x:=aD k.o;have V:=f.lt;have E:=aA f;obtain⟨⟨c0,c1⟩,f0,f1⟩:=fK f.1;clear f j n v p t;have L:=aA (E.o.more H.o);have K:=aA (m.o.trans (iD (g:=g) (mb:=mb) (i:=1) (.int .i64 (q:Nat))));have G:=aA (F.o.aC0 ((iD (g:=g) (mb:=mb) (i:=1) (.int .i64 (q:Nat))).mono fun b _ l=>D.o b l));have P:=qS k (iD (g:=g) (mb:=mb) (i:=1) (.int .i64 (q:Nat))) ⟨qo,qo⟩;go_wp2;go_returns;exact⟨rfl,L.o,K.o⟩
 have d:decide ((q:Int) > 64)=false:=dF qo;have I:=aA (fun w h=>KW (ok:=ok) (.slice Y r.aC1.length Z) r.aC1 w h);unfold aO at I;by_cases J:eX r.aC1=0
 case neg=>
  rw[VC o (qA H.o) J];simp only;clear o;have d2:(eX r.aC1 != 0)=true:=bne_iff_ne.2 J;clear J;generalize eX r.aC1=te at *;go_enter func186,ntmps186;go_wp2_with fail;refine n.o.mono ?_;rintro e w1 ⟨rfl,f,j⟩;have k:=qS p j ⟨qo,qo⟩;have m:=aA ((aJ t.o).trans j);have F:=aA (v.o.aC0 (m.o.mono fun b _ l=>D.o b l));obtain⟨⟨y,z,A,B,C⟩,_⟩:=cP k.o;have x:=aD k.o;have V:=f.lt;have E:=aA f;obtain⟨⟨c0,c1⟩,f0,f1⟩:=fK f.1;clear f j n v p t;have L:=aA (E.o.more H.o);have K:=aA (m.o.trans (iD (g:=g) (mb:=mb) (i:=1) (.int .i64 (q:Nat))));have G:=aA (F.o.aC0 ((iD (g:=g) (mb:=mb) (i:=1) (.int .i64 (q:Nat))).mono fun b _ l=>D.o b l));have P:=qS k (iD (g:=g) (mb:=mb) (i:=1) (.int .i64 (q:Nat))) ⟨qo,qo⟩;go_wp2_with fail;refine(I.o _ G.o.2.1).mono ?_;rintro e w3 ⟨rfl,c⟩;have R:=aA (L.o.on c);have Q:=aA (K.o.trans (aJ c));clear c I;go_wp2;go_returns;exact⟨rfl,R.o,Q.o⟩
 have N:=aA (fun w h=>GM (ok:=ok) (.slice T r.cond.length U) r.cond w h);unfold aO at N;rw[J] at I;by_cases O:lB r.cond=0
 case neg=>
  rw[Ea o (qA H.o) J O];simp only;clear o;have d2:(lB r.cond != 0)=true:=bne_iff_ne.2 O;clear J O;generalize lB r.cond=te at *;go_enter func186,ntmps186;go_wp2_with fail;refine n.o.mono ?_;rintro e w1 ⟨rfl,f,j⟩;have k:=qS p j ⟨qo,qo⟩;have m:=aA ((aJ t.o).trans j);have F:=aA (v.o.aC0 (m.o.mono fun b _ l=>D.o b l));obtain⟨⟨y,z,A,B,C⟩,_⟩:=cP k.o;have x:=aD k.o;have V:=f.lt;have E:=aA f;obtain⟨⟨c0,c1⟩,f0,f1⟩:=fK f.1;clear f j n v p t;have L:=aA (E.o.more H.o);have K:=aA (m.o.trans (iD (g:=g) (mb:=mb) (i:=1) (.int .i64 (q:Nat))));have G:=aA (F.o.aC0 ((iD (g:=g) (mb:=mb) (i:=1) (.int .i64 (q:Nat))).mono fun b _ l=>D.o b l));have P:=qS k (iD (g:=g) (mb:=mb) (i:=1) (.int .i64 (q:Nat))) ⟨qo,qo⟩;go_wp2_with fail;refine(I.o _ G.o.2.1).mono ?_;rintro e w3 ⟨rfl,c⟩;obtain⟨R,Q,S,M⟩:=dG (L.o.on c) (K.o.trans (aJ c)) (G.o.aC0 (aJ c)) (aE P.o c);clear y z A B C x c I;obtain⟨⟨y,z,A,B,C⟩,_⟩:=cP M.o;have x:=aD M.o;go_wp2_with fail;refine(N.o _ S.o.2.2.1).mono ?_;rintro e w4 ⟨rfl,c⟩;have ab:=aA (R.o.on c);have aa:=aA (Q.o.trans (aJ c));clear c N;go_wp2;go_returns;exact⟨rfl,ab.o,aa.o⟩
 rw[O] at N;have HL:=aA (fun w h=>UZ (ok:=ok) (.slice W r.aC7.length X) r.aC7 w h);unfold aO at HL;rw[Eb o (qA H.o) J O];simp only;clear o J O;generalize lC r.aC7=oe at *;go_enter func186,ntmps186;go_wp2_with fail;refine n.o.mono ?_;rintro e w1 ⟨rfl,f,j⟩;have k:=qS p j ⟨qo,qo⟩;have m:=aA ((aJ t.o).trans j);have F:=aA (v.o.aC0 (m.o.mono fun b _ l=>D.o b l));obtain⟨⟨y,z,A,B,C⟩,_⟩:=cP k.o;have x:=aD k.o;have V:=f.lt;have E:=aA f;obtain⟨⟨c0,c1⟩,f0,f1⟩:=fK f.1;clear f j n v p t;have L:=aA (E.o.more H.o);have K:=aA (m.o.trans (iD (g:=g) (mb:=mb) (i:=1) (.int .i64 (q:Nat))));have G:=aA (F.o.aC0 ((iD (g:=g) (mb:=mb) (i:=1) (.int .i64 (q:Nat))).mono fun b _ l=>D.o b l));have P:=qS k (iD (g:=g) (mb:=mb) (i:=1) (.int .i64 (q:Nat))) ⟨qo,qo⟩;go_wp2_with fail;refine(I.o _ G.o.2.1).mono ?_;rintro e w3 ⟨rfl,c⟩;obtain⟨R,Q,S,M⟩:=dG (L.o.on c) (K.o.trans (aJ c)) (G.o.aC0 (aJ c)) (aE P.o c);clear y z A B C x c I;obtain⟨⟨y,z,A,B,C⟩,_⟩:=cP M.o;have x:=aD M.o;go_wp2_with fail;refine(N.o _ S.o.2.2.1).mono ?_;rintro e w4 ⟨rfl,c⟩;obtain⟨ab,aa,af,B4⟩:=dG (R.o.on c) (Q.o.trans (aJ c)) (S.o.aC0 (aJ c)) (aE M.o c);clear y z A B C x c N;obtain⟨⟨y,z,A,B,C⟩,_⟩:=cP B4.o;have x:=aD B4.o;go_wp2_with fail;refine(HL.o _ af.o.2.2.2).mono ?_;rintro e w5 ⟨rfl,c⟩;have ag:=aA (ab.o.on c);have ae:=aA (aa.o.trans (aJ c));clear c HL;go_wp2;go_returns;exact⟨rfl,ag.o,ae.o⟩
theorem QAJ{p:Prop}(h:p:=by
 rw[VD hnw hc1 hc2 ht];simp only;rw[hset] at HN B0 HB0;clear hnw hc1 hc2 h1 h2;have d9:(eX p.aC1 != 0)=true:=bne_iff_ne.2 ht;clear ht;generalize eX p.aC1=te at *;go_enter func185,ntmps185;go_wp2_with fail;refine HN.o.mono ?_;rintro e w1 ⟨rfl,hn_,k_⟩;have B1:=qS B0 k_ ⟨qo,qo⟩;have HK:=aA ((aJ HB0.o).trans k_);have HP1:=aA (HP.o.aC0 (HK.o.mono fun b _ hb=>HO.o b hb));obtain⟨⟨x0,x1,x2,x3,x4,x5,x6⟩,_⟩:=bJ B1.o;have hz:=aD B1.o;have HW1:=aA hn_;clear hn_ k_ HN HP B0 HB0;go_wp2_with fail;refine(HT.o _ HP1.o.2.2.1).mono ?_;rintro e w2 ⟨rfl,hb_⟩;have HW2:=aA (HW1.o.on hb_);have HK2:=aA (HK.o.trans (aJ hb_));clear hb_ HT;go_wp2;go_returns;exact⟨rfl,HW2.o,HK2.o⟩):p:=h
theorem QAA{p:Prop}(h:p:=by
 rw[Ec hnw hc1 hc2 ht hl];simp only;rw[hset] at HN B0 HB0;clear hnw hc1 hc2 h1 h2 ht;have d9:(lC p.aC7 != 0)=true:=bne_iff_ne.2 hl;clear hl;generalize lC p.aC7=te at *;go_enter func185,ntmps185;go_wp2_with fail;refine HN.o.mono ?_;rintro e w1 ⟨rfl,hn_,k_⟩;have B1:=qS B0 k_ ⟨qo,qo⟩;have HK:=aA ((aJ HB0.o).trans k_);have HP1:=aA (HP.o.aC0 (HK.o.mono fun b _ hb=>HO.o b hb));obtain⟨⟨x0,x1,x2,x3,x4,x5,x6⟩,_⟩:=bJ B1.o;have hz:=aD B1.o;have HW1:=aA hn_;clear hn_ k_ HN HP B0 HB0;go_wp2_with fail;refine(HT.o _ HP1.o.2.2.1).mono ?_;rintro e w2 ⟨rfl,hb_⟩;have HW2:=aA (HW1.o.on hb_);have HK2:=aA (HK.o.trans (aJ hb_));have HP2:=aA (HP1.o.aC0 (aJ hb_));have B2:=qK B1 hb_;clear x0 x1 x2 x3 x4 x5 x6 hz hb_ HT;obtain⟨⟨x0,x1,x2,x3,x4,x5,x6⟩,_⟩:=bJ B2.o;have hz:=aD B2.o;go_wp2_with fail;refine(HL.o _ HP2.o.2.2.2.2.2).mono ?_;rintro e w3 ⟨rfl,hb_⟩;have HW3:=aA (HW2.o.on hb_);have HK3:=aA (HK2.o.trans (aJ hb_));clear hb_ HL;go_wp2;go_returns;exact⟨rfl,HW3.o,HK3.o⟩):p:=h
theorem Ae{p:Prop}(h:p:=by
 go_enter func185,ntmps185;go_wp2_with fail;refine HN.o.mono ?_;rintro e w1 ⟨rfl,hn_,k_⟩;have B1:=qS B0 k_ ⟨qo,qo⟩;have HK:=aA ((aJ HB0.o).trans k_);have HP1:=aA (HP.o.aC0 (HK.o.mono fun b _ hb=>HO.o b hb));obtain⟨⟨x0,x1,x2,x3,x4,x5,x6⟩,_⟩:=bJ B1.o;have hz:=aD B1.o;have HW1:=aA hn_;clear hn_ k_ HN HP B0 HB0;go_wp2;go_returns;exact⟨rfl,HW1.o,HK.o⟩):p:=h
theorem Sw{p:Prop}(h:p:=by
 go_enter func185,ntmps185;go_wp2_with fail;refine HN.o.mono ?_;rintro e w1 ⟨rfl,hn_,k_⟩;have B1:=qS B0 k_ ⟨qo,qo⟩;have HK:=aA ((aJ HB0.o).trans k_);have HP1:=aA (HP.o.aC0 (HK.o.mono fun b _ hb=>HO.o b hb));obtain⟨⟨x0,x1,x2,x3,x4,x5,x6⟩,_⟩:=bJ B1.o;have hz:=aD B1.o;have HW1:=aA hn_;clear hn_ k_ HN HP B0 HB0;go_wp2_with fail;refine(HT.o _ HP1.o.2.2.1).mono ?_;rintro e w2 ⟨rfl,hb_⟩;have HW2:=aA (HW1.o.on hb_);have HK2:=aA (HK.o.trans (aJ hb_));have HP2:=aA (HP1.o.aC0 (aJ hb_));have B2:=qK B1 hb_;clear x0 x1 x2 x3 x4 x5 x6 hz hb_ HT;obtain⟨⟨x0,x1,x2,x3,x4,x5,x6⟩,_⟩:=bJ B2.o;have hz:=aD B2.o;go_wp2_with fail;refine(HL.o _ HP2.o.2.2.2.2.2).mono ?_;rintro e w3 ⟨rfl,hb_⟩;have HW3:=aA (HW2.o.on hb_);have HK3:=aA (HK2.o.trans (aJ hb_));have HP3:=aA (HP2.o.aC0 (aJ hb_));have B3:=qK B2 hb_;clear x0 x1 x2 x3 x4 x5 x6 hz hb_ HL;obtain⟨⟨x0,x1,x2,x3,x4,x5,x6⟩,_⟩:=bJ B3.o;have hz:=aD B3.o;go_wp2;go_returns;exact⟨rfl,HW3.o,HK3.o⟩):p:=h
theorem DS{p:Po}{s s1:WS}{a:Bool}(h:gN p.id s=(a,s1))(h1:a=false\/p.alg<1\/6<p.alg):fI p s=(1,s1):=by
 unfold fI;rw[h];exact iP h1
theorem AP{p:Po}{s s1:WS}{a:Bool}(h:gN p.id s=(a,s1))(h1:¬(a=false\/p.alg<1\/6<p.alg))(h2:(p.set=true/\p.aCT≠[])\/(p.set=false/\(0<p.aC5.length\/p.alg=4))):fI p s=(1,s1):=by
 unfold fI;rw[h];simp only[iN h1,iP h2]
theorem VD{p:Po}{s s1:WS}{a:Bool}(h:gN p.id s=(a,s1))(h1:¬(a=false\/p.alg<1\/6<p.alg))(h2:¬((p.set=true/\p.aCT≠[])\/(p.set=false/\(0<p.aC5.length\/p.alg=4))))(h3:eX p.aC1≠0):fI p s=(eX p.aC1,s1):=by
 unfold fI;rw[h];simp only[iN h1,iN h2,iP h3]
theorem Ec{p:Po}{s s1:WS}{a:Bool}(h:gN p.id s=(a,s1))(h1:¬(a=false\/p.alg<1\/6<p.alg))(h2:¬((p.set=true/\p.aCT≠[])\/(p.set=false/\(0<p.aC5.length\/p.alg=4))))(h3:eX p.aC1=0)(h4:lC p.aC7≠0):fI p s=(lC p.aC7,s1):=by
 unfold fI;rw[h];simp only[iN h1,iN h2,h3,ne_eq,not_true_eq_false,if_false,iP h4]
theorem PG{p:Po}{s s1:WS}{a:Bool}(h:gN p.id s=(a,s1))(h1:¬(a=false\/p.alg<1\/6<p.alg))(h2:¬((p.set=true/\p.aCT≠[])\/(p.set=false/\(0<p.aC5.length\/p.alg=4))))(h3:eX p.aC1=0)(h4:lC p.aC7=0):fI p s=(if 16<p.aCT.length\/16<p.aC5.length then 6 else 0,s1):=by
 unfold fI;rw[h];simp only[iN h1,iN h2,h3,h4,ne_eq,not_true_eq_false,if_false];by_cases h5:16<p.aCT.length\/16<p.aC5.length
 .rw[iP h5,iP h5]
 .rw[iN h5,iN h5]
theorem Ph{n:Nat}{ok:nP}(p:Po)(vt vr vk vo:Value)(mb g:Nat)(s:WS)(hm:s.met.length<=1000000)(w:World)(h:NW w mb g s)(hp:fN n w ok p vt vr vk vo)(q:∀b,ok b->b≠g/\b≠mb):Calls prog 185 #[.pointer (some ⟨g,0,none⟩),.agg #[.string p.id,.bool p.set,.int .i64 p.alg,vt,vr,vk,vo]] w (oI w mb g (fI p s).2 (.int .i64 (fI p s).1)):=by
 have x:=h.lt;have y:=h.ltm;obtain⟨i,j,rfl,_⟩:=hp.2.2.1.slice;obtain⟨ra,rc,rfl,v⟩:=hp.2.2.2.1.slice;obtain⟨l,m,rfl,t⟩:=hp.2.2.2.2.1.slice;obtain⟨d,f,rfl,_⟩:=hp.2.2.2.2.2.slice;obtain⟨HN,B0,HB0,HP,HO⟩:=gC (AG p.id hp.1 mb g s hm _ (h.on (aB w (.cells #[.string p.id,.bool p.set,.int .i64 p.alg,.slice i p.aC1.length j,.slice ra p.aCT.length rc,.slice l p.aC5.length m,.slice d p.aC7.length f] 38)))) (aK w (.cells #[.string p.id,.bool p.set,.int .i64 p.alg,.slice i p.aC1.length j,.slice ra p.aCT.length rc,.slice l p.aC5.length m,.slice d p.aC7.length f] 38) _ rfl) (aB w (.cells #[.string p.id,.bool p.set,.int .i64 p.alg,.slice i p.aC1.length j,.slice ra p.aCT.length rc,.slice l p.aC5.length m,.slice d p.aC7.length f] 38)) hp q;unfold oI;unfold oI at HN;obtain⟨r,s1,hnw⟩:∃a b,gN p.id s=(a,b):=⟨_,_,rfl⟩;rw[hnw] at HN;simp only at HN;clear h hp q
 cases r
 .rw[DS hnw (.inl rfl)];simp only;clear hnw;exact Ae
 by_cases h1:p.alg<1
 .rw[DS hnw (.inr (.inl h1))];simp only;have d1:decide (p.alg<1)=true:=dX h1;clear hnw h1;exact Ae
 have d1:decide (p.alg<1)=false:=dF h1;by_cases h2:6<p.alg
 .rw[DS hnw (.inr (.inr h2))];simp only;have d2:decide (p.alg > 6)=true:=dX h2;clear hnw h1 h2;exact Ae
 have d2:decide (p.alg > 6)=false:=dF h2;have hc1:¬(true=false\/p.alg<1\/6<p.alg):=by rintro (h|h|h);cases h;exact h1 h;exact h2 h
 have HT:=aA (fun w h=>KW (ok:=ok) (.slice i p.aC1.length j) p.aC1 w h);unfold aO at HT;have HL:=aA (fun w h=>UZ (ok:=ok) (.slice d p.aC7.length f) p.aC7 w h);unfold aO at HL
 cases hset:p.set
 .by_cases o:0<p.aC5.length
  .rw[AP hnw hc1 (.inr ⟨hset,.inl o⟩)];simp only;rw[hset] at HN B0 HB0;have d3:decide ((p.aC5.length:Int) > 0)=true:=dX qo;clear hnw h1 h2 hc1 HT HL;exact Ae
  have d3:decide ((p.aC5.length:Int) > 0)=false:=dF qo;by_cases h4:p.alg=4
  .rw[AP hnw hc1 (.inr ⟨hset,.inr h4⟩)];simp only;rw[hset] at HN B0 HB0;have d4:(p.alg==4)=true:=bQ.2 h4;clear hnw h1 h2 hc1 HT HL h4;exact Ae
  have d4:(p.alg==4)=false:=bN.2 h4;have hc2:¬((p.set=true/\p.aCT≠[])\/(p.set=false/\(0<p.aC5.length\/p.alg=4))):=by rintro (h|h);rw[hset] at h;cases h.1;exact h.2.elim o h4
  by_cases ht:eX p.aC1=0
  case neg=>
   exact QAJ
  rw[ht] at HT;by_cases hl:lC p.aC7=0
  case neg=>
   exact QAA
  rw[hl] at HL;rw[PG hnw hc1 hc2 ht hl];simp only;rw[hset] at HN B0 HB0;clear hnw hc1 hc2 h1 h2 ht hl;by_cases h16:16<p.aCT.length
  .rw[iP (.inl h16)];have d9:decide ((p.aCT.length:Int) > 16)=true:=dX qo;exact Sw
  have d9:decide ((p.aCT.length:Int) > 16)=false:=dF qo;by_cases c:16<p.aC5.length
  .exact absurd c qo
  have d10:decide ((p.aC5.length:Int) > 16)=false:=dF qo;rw[iN (fun h=>h.elim h16 c)];exact Sw
 .by_cases k:0<p.aCT.length
  .rw[AP hnw hc1 (.inl ⟨hset,fun e=>by rw[e] at k;exact absurd k qe⟩)];simp only;rw[hset] at HN B0 HB0;have d3:decide ((p.aCT.length:Int) > 0)=true:=dX qo;clear hnw h1 h2 hc1 HT HL;exact Ae
  have d3:decide ((p.aCT.length:Int) > 0)=false:=dF qo;have hc2:¬((p.set=true/\p.aCT≠[])\/(p.set=false/\(0<p.aC5.length\/p.alg=4))):=by rintro (h|h);exact k (List.length_pos_iff.2 h.2);rw[hset] at h;cases h.1
  by_cases ht:eX p.aC1=0
  case neg=>
   exact QAJ
  rw[ht] at HT;by_cases hl:lC p.aC7=0
  case neg=>
   exact QAA
  rw[hl] at HL;rw[PG hnw hc1 hc2 ht hl];simp only;rw[hset] at HN B0 HB0;clear hnw hc1 hc2 h1 h2 ht hl;by_cases h16:16<p.aCT.length
  .exact absurd h16 qo
  have d9:decide ((p.aCT.length:Int) > 16)=false:=dF qo;by_cases c:16<p.aC5.length
  .rw[iP (.inr c)];have d10:decide ((p.aC5.length:Int) > 16)=true:=dX qo;exact Sw
  have d10:decide ((p.aC5.length:Int) > 16)=false:=dF qo;rw[iN (fun h=>h.elim h16 c)];exact Sw
def pC(b:Nat)(s t:WS):Prop:=t.met.length<=s.met.length+b/\t.aCT<=s.aCT+b
theorem pC.trans{a b:Nat}{s t u:WS}(h:pC a s t)(k:pC b t u):pC (a+b) s u:=⟨qD h.1 k.1,qD h.2 k.2⟩
theorem pC.more{a b:Nat}{s t:WS}(h:pC a s t)(k:a<=b):pC b s t:=⟨qA h.1,qA h.2⟩
theorem pC.refl(b:Nat)(s:WS):pC b s s:=⟨qo,qo⟩
theorem Jm(n:bY)(s:WS):pC 1 s (gN n s).2:=⟨PF n s,by rw[xY];omega⟩
theorem PH(r:Ru)(s:WS):pC 1 s (fS r s).2:=by
 have h:=PF r.id s;have h2:=xY r.id s;unfold fS;generalize gN r.id s=q at *;obtain⟨a,s1⟩:=q;simp only at h h2 ⊢;unfold pC;split
 .exact⟨h,by simp only;omega⟩
 split
 .exact⟨h,by simp only;omega⟩
 split
 .exact⟨h,by simp only;omega⟩
 split
 .exact⟨h,by simp only;omega⟩
 .exact⟨h,by simp only;omega⟩
theorem PI(p:Po)(s:WS):pC 1 s (fI p s).2:=by
 have h:=Jm p.id s;unfold fI;generalize gN p.id s=q at *;obtain⟨a,s1⟩:=q;simp only at h ⊢
 repeat' split
 all_goals exact h
theorem vD{p:Po}{s:WS}(h:(fI p s).1=0):p.aCT.length<=16/\p.aC5.length<=16:=by
 unfold fI at h;generalize gN p.id s=q at *;obtain⟨b,s1⟩:=q;simp only at h;by_cases h1:b=false\/p.alg<1\/6<p.alg
 .rw[iP h1] at h;simp at h
 rw[iN h1] at h;by_cases h2:(p.set=true/\p.aCT≠[])\/(p.set=false/\(0<p.aC5.length\/p.alg=4))
 .rw[iP h2] at h;simp at h
 rw[iN h2] at h;by_cases h3:eX p.aC1=0
 case neg=>rw[iP h3] at h;exact absurd h h3
 rw[iN (fun a=>a h3)] at h;by_cases h4:lC p.aC7=0
 case neg=>rw[iP h4] at h;exact absurd h h4
 rw[iN (fun a=>a h4)] at h;by_cases h5:16<p.aCT.length\/16<p.aC5.length
 .rw[iP h5] at h;simp at h
 .omega
theorem JD{α:Type}{f:α->WS->Int×WS}{b:Nat}(c:∀x s,pC b s (f x s).2):∀(l:List α) (s:WS),pC (l.length * b) s (jC f l s).2
 | [],s=>pC.refl _ s
 |x::l,s=>by
  have h1:=c x s;have h2:=JD c l (f x s).2;unfold jC;generalize f x s=q at *;obtain⟨e,s1⟩:=q;simp only at h1 h2 ⊢;have a:(x::l).length * b=b+l.length * b:=by rw[List.length_cons,Nat.add_mul];omega
  by_cases he:e≠0
  .rw[iP he];exact h1.more (by rw[a];omega)
  .rw[iN he,a];exact h1.trans h2
def kY:Nat->Nat
 |0=>0
 |n+1=>17+16 * kY n
theorem DT{n:Nat}{p:Po}{s:WS}(h:(fI p s).1≠0):eN (n+1) p s=fI p s:=by
 unfold eN;generalize fI p s=q at *;obtain⟨e,s1⟩:=q;exact iP h
theorem BP{n:Nat}{p:Po}{s s1:WS}(h:fI p s=(0,s1))(h1:(jC fS p.aCT s1).1≠0):eN (n+1) p s=jC fS p.aCT s1:=by
 unfold eN;rw[h];simp only[ne_eq,not_true_eq_false,if_false];generalize jC fS p.aCT s1=q at *;obtain⟨e,s2⟩:=q;exact iP h1
theorem DU{n:Nat}{p:Po}{s s1 s2:WS}(h:fI p s=(0,s1))(h1:jC fS p.aCT s1=(0,s2)):eN (n+1) p s=jC (eN n) p.aC5 s2:=by
 unfold eN;rw[h];simp only[ne_eq,not_true_eq_false,if_false];rw[h1];simp only[not_true_eq_false,if_false]
theorem GP:∀(n:Nat) (p:Po) (s:WS),pC (kY n) s (eN n p s).2
 |0,p,s=>pC.refl _ s
 |n+1,p,s=>by
  have h1:=PI p s;have e:=vD (p:=p) (s:=s);by_cases a:(fI p s).1=0
  case neg=>rw[DT a];exact h1.more (by unfold kY;omega)
  obtain⟨g,f⟩:=e a;obtain⟨s1,b⟩:∃s1,fI p s=(0,s1):=⟨_,Prod.ext a rfl⟩;rw[b] at h1;have h2:=JD PH p.aCT s1;by_cases c:(jC fS p.aCT s1).1=0
  case neg=>rw[BP b c];exact(h1.trans h2).more (by unfold kY;omega)
  obtain⟨s2,d⟩:∃s2,jC fS p.aCT s1=(0,s2):=⟨_,Prod.ext c rfl⟩;rw[d] at h2;rw[DU b d];refine((h1.trans h2).trans (JD (GP n) p.aC5 s2)).more ?_;have:=Nat.mul_le_mul_right (kY n) f;show 1+p.aCT.length * 1+p.aC5.length * kY n<=17+16 * kY n;omega
section
variable {α:Type} {f:α->WS->Int×WS} {l:List α} {k:Nat} {s:WS} {res:Int×WS}
theorem PJ(a:k<l.length)(h:jC f (l.drop k) s=res)(h1:(f l[k] s).1≠0):res=f l[k] s:=by
 rw[<-h,List.drop_eq_getElem_cons a];unfold jC;generalize f l[k] s=q at *;obtain⟨e,s1⟩:=q;exact iP h1
theorem Af{s1:WS}(a:k<l.length)(h:jC f (l.drop k) s=res)(h1:f l[k] s=(0,s1)):jC f (l.drop (k+1)) s1=res:=by
 rw[<-h,List.drop_eq_getElem_cons a]
 conv=>rhs;unfold jC
 rw[h1];simp only[ne_eq,not_true_eq_false,if_false]
theorem VE(h:jC f (l.drop l.length) s=res):res=(0,s):=by
 rw[<-h,List.drop_length];rfl
end
end Go.Proofs.YtbinmcabjnoliaaGreatDoor
