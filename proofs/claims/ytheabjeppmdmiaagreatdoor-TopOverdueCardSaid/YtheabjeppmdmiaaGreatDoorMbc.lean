/- Lemmas. -/
import Derived.Test.YtheabjeppmdmiaaGreatDoorMbb
import Derived.Maps.OwnOps
import Derived.Maps.OwnSet
namespace Go.Proofs.YtheabjeppmdmiaaGreatDoor
open Go.RowKit
set_option linter.unusedVariables false
set_option linter.unusedSimpArgs false
set_option maxHeartbeats 16000000
open _root_.Go.Proofs.Tryz
set_option maxRecDepth 20000
theorem QCz{p:Prop}(h:p:=by
 go_wp2;go_returns;rw[HE.o];exact⟨_,rfl,HB.o.mono hbase,aM.nil⟩):p:=h
theorem Uh:eF prog 338 4 1 1:=fZ (z:= .bool false) underlying338 (by kernel_rfl) rfl qe
def JQ(l:List Bool)(n:No)(base:Nat)(w:World)(e:Ending)(w':World):Prop:=
 ∃v,e=.returned (.tuple #[v,.bool (lG l n).isSome])/\Below base w w'/\aM DP 1 4 w' base (fun _=>True) v ((lG l n).getD [])
theorem Eu{l m:List Bool}{a k:Nat}(h1:a+k<l.length)(h2:k<m.length):(l.drop (a+k)=m.drop k)↔(l[a+k]=m[k]/\l.drop (a+(k+1))=m.drop (k+1)):=by
 rw[List.drop_eq_getElem_cons h1,List.drop_eq_getElem_cons h2,List.cons.injEq];rfl
theorem Ev{l:List Bool}{n:No}(h:mW n.op=none):lG l n=none:=by unfold lG;rw[h]
theorem EA{l m:List Bool}{n:No}(h:mW n.op=some m)(h2:¬(qZ n=true/\m.length<=l.length/\l.drop (l.length - m.length)=m)):lG l n=none:=by unfold lG;rw[h];exact iN h2
theorem Ew{l m:List Bool}{n:No}{q:Nat}(a:l.length=q+m.length)(h:mW n.op=some m)(h1:qZ n=true)(h2:l.drop q=m):lG l n=some (l.take q++[decide (n.op=2)]):=by
 have e:l.length - m.length=q:=qo;unfold lG;rw[h];simp only[e];exact iP ⟨h1,qo,h2⟩
theorem JR(v:Value)(l:List Bool)(n:No)(ag:oU n)(base:Nat)(w:World)(h:aM DP 1 4 w base (fun _=>True) v l)(au:l.length<=100)(hbase:base<=w.heap.size):Calls prog 243 #[v,jP n] w (JQ l n base w):=by
 obtain⟨a,c,rfl⟩:=h.slice;have G:=aA h;have N:=aA (fun w=>Km n.op w);have K:=aA (fun w=>Et n ag w);unfold DZ at N;unfold aP jP at K;unfold JQ jP;have B0:=aA (aK w (.cells (iW n) 274) _ rfl);have ad:=aA (aB w (.cells (iW n) 274));clear h;go_enter func243,ntmps243;go_wp2_with fail;refine(N.o _).mono ?_;rintro e w1 ⟨wv,rfl,o,ab⟩;obtain⟨C,HB,y⟩:=aY (aE B0.o o) (aC ad.o o) ab;obtain⟨⟨x0,x1,x2,x3,x4,x5,x6⟩,_⟩:=bI C.o;have hz:=aD C.o;clear o ab N
 cases hw:mW n.op with
 |none=>
  have HE:=aA (Ev (l:=l) hw);simp only[Option.isSome_none];clear hw;exact QCz
 |some m=>
  simp only[Option.isSome_some];rw[hw] at y;simp only[Option.getD_some] at y;go_wp2_with fail;refine(K.o _).mono ?_;rintro e w2 ⟨rfl,o⟩;obtain⟨HB,D,y⟩:=aY (aC HB.o o) (aE C.o o) (y.o.on jU o);clear x0 x1 x2 x3 x4 x5 x6 hz C o K;obtain⟨⟨x0,x1,x2,x3,x4,x5,x6⟩,_⟩:=bI D.o;have hz:=aD D.o;obtain⟨wa,wc,rfl,av⟩:=y.o.slice
  cases B:qZ n with
  |false=>
   have HE:=aA (EA (l:=l) hw (fun h=>by rw[B] at h;exact absurd h.1 qe));clear hw B;exact QCz
  |true=>
   by_cases hlen:l.length<m.length
   .have HE:=aA (EA (l:=l) hw (fun h=>by omega));have d:decide ((l.length:Int)<(m.length:Int))=true:=dX qo;clear hw B;exact QCz
   obtain⟨q,Q⟩:∃q,l.length=q+m.length:=⟨l.length - m.length,qo⟩;have d:decide ((l.length:Int)<(m.length:Int))=false:=dF qo;have d2:IntKind.i64.wrap ((l.length:Int) - (m.length:Int))=(q:Int):=by rw[IntWalk.i64_in _ qo];omega
   have E:=aA (fun (hd:¬(l.drop q=m))=>EA (l:=l) (n:=n) hw (fun h=>by rw[show l.length - m.length=q by omega] at h;exact hd h.2.2));have H:=aA (Ew Q hw B);have f:=aA Q;clear hw B Q;obtain⟨res,R⟩:∃res:Prop,res=(l.drop q=m):=⟨_,rfl⟩;rw[<-R] at E H;have af:Hid (aH DP w2 (fun _=>True) (.slice a l.length c) l):=aA ((G.o.on jU HB.o).sl qo _ (fun _ _ _=>trivial) (fun _ _ _=>trivial) jU);have V:Hid ((l.drop (q+0)=m.drop 0)=res):=aA (by rw[Nat.add_zero,List.drop_zero];exact R.symm);clear R;have d3:wrap64 ((l.length:Int) - (m.length:Int))=(q:Int):=by have:=f.o;rw[IntWalk.wrap64_in _ qo];omega
   go_wp2;go_loopw [38] (fun i wr=>∃k:Nat,k<=m.length/\i=.int .i64 k/\Hid ((l.drop (q+k)=m.drop k)=res)/\wr=w2) (fun i _=>m.length - (intOf i).toNat)
   case atStart=>exact⟨0,Nat.zero_le _,rfl,V,rfl⟩
   case round=>
    clear V;obtain⟨k,hk,rfl,x,rfl⟩:=hrel;by_cases Z:k<m.length
    .have ai:(k:Int)<(m.length:Int):=qo;obtain⟨j,hj⟩:=xE (q+k);have ah:j<l.length:=qA f.o;have aq:(j:Int)<(l.length:Int):=qo;have ao:(0:Int)<=(j:Int):=qo;have e1:IntKind.i64.wrap ((q:Int)+(k:Int))=(j:Int):=by rw[IntWalk.i64_in _ qo];omega
     obtain⟨b,off,r,rfl,_,ak,⟨rfl,_⟩,X⟩:=aH.at jU y.o Z qe;have y0:=X 0 _ rfl;rw[Nat.add_zero,Nat.mul_one] at y0;obtain⟨b',aw,r,rfl,_,al,⟨rfl,_⟩,Y⟩:=aH.at jU af.o ah qe;have z0:=Y 0 _ rfl;rw[Nat.add_zero,Nat.mul_one] at z0;have s:=aA (Eu (l:=l) (m:=m) (a:=q) (k:=k) (qA f.o) Z);have U:=aA (fun (hx:q+k<l.length)=>(by subst hj;rfl:l[q+k]=l[j]));clear X Y;rw[U.o _] at s;clear U;generalize l[j]=u at *;generalize m[k]=t at *;by_cases S:u=t
     .subst S;have ae:Hid ((l.drop (q+(k+1))=m.drop (k+1))=res):=aA (by rw[<-x.o];exact propext ⟨fun h=>s.o.2 ⟨rfl,h⟩,fun h=>(s.o.1 h).2⟩);clear s x hj
      cases u
      all_goals
       go_wp2;go_roundw
       case rel=>exact⟨k+1,qo,by go_num,ae,by trivial⟩
       case measure=>simp[intOf];omega
     .have HE:=aA (E.o (by rw[<-x.o];exact fun h=>S (s.o.1 h).1));clear s x hj E H
      cases u<;>cases t
      all_goals first
       |exact absurd rfl S
       |(go_wp2
         go_returns;rw[HE.o];exact⟨_,rfl,HB.o.mono hbase,aM.nil⟩)
    .have ai:¬(k:Int)<(m.length:Int):=qo;have hr:res:=by rw[<-x.o,List.drop_eq_nil_of_le (qA f.o),List.drop_eq_nil_of_le qo]
     have HE:=aA (H.o hr);clear x hr E H;obtain⟨aj,ar,an⟩:=G.o.place;have HC:=aA ((G.o.on jU HB.o).cut jU q (qA f.o));have g:=aA ((aB wr (.cells #[.bool (n.op==2)] 4)).drew);have W:Hid ((wr.alloc (.cells #[.bool (n.op==2)] 4)).drew.heap[wr.heap.size]? =some (.cells #[.bool (n.op==2)] 4 (0,0))):=aA (aK wr (.cells #[.bool (n.op==2)] 4) _ rfl);have F:=aA (HC.o.on jU g.o);have I:base<=wr.heap.size:=lT hbase HB.o.size;have aa:(l.take q).length=q:=by have:=f.o;rw[List.length_take];omega
     have q0:(0:Int)<=(q:Int):=qo;have q1:(q:Int)<=(c:Int):=qA f.o;have q2:(q:Int)<=(l.length:Int):=qA f.o;have T:=aA ((aC HB.o g.o).mono hbase)
     rcases aj with ⟨rfl,rfl⟩|⟨ga,rfl⟩
     .obtain rfl:l=[]:=List.eq_nil_of_length_eq_zero qo;obtain rfl:q=0:=by have:=f.o;simp only[List.length_nil] at this;omega
      have z:=qK D g.o;have M:Hid (some w.heap.size≠(Value.slice none 0 0).ownBlock):=aA (fun h=>(by cases (show some w.heap.size=none from h)));go_wp2;go_region_held3 (fun w'=>w'.cell? ⟨w.heap.size,0,none⟩=some (.int .i64 n.op)) (first|go_keep|assumption) ((refine jT Uh jU (by rfl) (.tmp 54) (.tmp 58) (by rfl) _ (([]:List Bool).take 0) (by rfl) F.o wr.heap.size 1 _ _ _ (n.op==2) (by rfl) W.o ⟨rfl,trivial⟩ (by rw[aa];omega) qe (lT I g.o.size) ?_;intro l' P A' c' w9 A p O;have L:=aA A;have J:=aA (F.o.below T.o p (lR _) (lT I g.o.size));have x9:=(bI ((p.block w.heap.size (aD z.o) M.o).trans z.o)).1.1;clear A p O))
      go_wp2;go_returns;rw[HE.o,<-NY,<-P.o];exact⟨_,rfl,J.o,L.o⟩
     .have z:=qK D g.o;have M:Hid (some w.heap.size≠(Value.slice (some ⟨ga,0,none⟩) q c).ownBlock):=aA (fun h=>qA ((G.o.lt w.heap.size h.symm).2));go_wp2;go_region_held3 (fun w'=>w'.cell? ⟨w.heap.size,0,none⟩=some (.int .i64 n.op)) (first|go_keep|assumption) ((refine jT Uh jU (by rfl) (.tmp 54) (.tmp 58) (by rfl) _ (l.take q) (by rfl) F.o wr.heap.size 1 _ _ _ (n.op==2) (by rfl) W.o ⟨rfl,trivial⟩ (by rw[aa];omega) qe (lT I g.o.size) ?_;intro l' P A' c' w9 A p O;have L:=aA A;have J:=aA (F.o.below T.o p (lR _) (lT I g.o.size));have x9:=(bI ((p.block w.heap.size (aD z.o) M.o).trans z.o)).1.1;clear A p O))
      go_wp2;go_returns;rw[HE.o,<-NY,<-P.o];exact⟨_,rfl,J.o,L.o⟩
theorem Ui{p:Prop}(h:p:=by
 go_wp2;go_returns;exact⟨by rw[HV.o];rfl,HB.o⟩):p:=h
theorem Kn{l r:List Bool}{n:No}(h:lG l n=some r):r.length<=l.length+1:=by
 unfold lG at h
 cases hw:mW n.op with
 |none=>rw[hw] at h;cases h
 |some m=>
  rw[hw] at h;simp only at h;by_cases a:qZ n=true/\m.length<=l.length/\l.drop (l.length - m.length)=m
  .rw[iP a] at h;injection h with h;rw[<-h,aL,List.length_take,List.length_singleton];omega
  .rw[iN a] at h;cases h
theorem Ko{l:List No}{lm:List Bool}{res:Option (List Bool)}(h:iS (l.drop l.length) lm=res):res=some lm:=by
 rw[<-h,List.drop_length];rfl
theorem Ex{l:List No}{k:Nat}{lm:List Bool}{res:Option (List Bool)}(a:k<l.length)(h:iS (l.drop k) lm=res)(h1:lG lm l[k]=none):res=none:=by
 rw[<-h,List.drop_eq_getElem_cons a];simp only[iS,h1]
theorem Ey{l:List No}{k:Nat}{lm r:List Bool}{res:Option (List Bool)}(a:k<l.length)(h:iS (l.drop k) lm=res)(h1:lG lm l[k]=some r):iS (l.drop (k+1)) r=res:=by
 rw[<-h,List.drop_eq_getElem_cons a];simp only[iS,h1]
def FO(n:Nat):Option (List Bool)->Int
 |none=>1
 |some made=>if 0<n/\made≠[false] then 1 else 0
theorem Ez(l:List No):lH l=if 32<l.length then 6 else FO l.length (iS l []):=by
 unfold lH FO
 cases iS l []<;>rfl
theorem IE{ok:nP}(v:Value)(l:List No)(w:World)(h:aH KD w ok v l):Calls prog 212 #[v] w (aP (.int .i64 (lH l)) w):=by
 obtain⟨a,c,rfl,T⟩:=h.slice;have M:=aA h;clear h;unfold aP;rw[Ez];by_cases h0:32<l.length
 .rw[iP h0];have d:decide ((l.length:Int) > 32)=true:=dX qo;clear h0;go_enter func212,ntmps212;exact GS
 rw[iN h0];have d:decide ((l.length:Int) > 32)=false:=dF qo;have S:l.length<=32:=qo;clear h0;obtain⟨res,z⟩:=xE (iS l []);rw[<-z];have B:Hid (iS (l.drop 0) []=res):=aA (by rw[List.drop_zero];exact z.symm);clear z;go_enter func212,ntmps212;go_wp2;go_loopw [3,12] (fun vm i wr=>∃(k:Nat) (lm:List Bool),k<=l.length/\lm.length<=k/\i=.int .i64 k/\Hid (iS (l.drop k) lm=res)/\Hid (aM DP 1 4 wr w.heap.size (fun _=>True) vm lm)/\Hid (Below w.heap.size w wr)) (fun vm i _=>l.length - (intOf i).toNat)
 case atStart=>exact⟨0,[],Nat.zero_le _,Nat.zero_le _,rfl,B,aA aM.nil,aA (Below.refl _ _)⟩
 case round=>
  clear B;obtain⟨k,lm,R,U,rfl,g,p,HB⟩:=hrel;by_cases y:k<l.length
  .have P:(k:Int)<(l.length:Int):=qo;obtain⟨b,off,r,rfl,_,O,⟨rfl,D⟩,m⟩:=aH.at dU (M.o.on dU HB.o) y qe;obtain⟨o,E,F,G,H,I,J⟩:=CR m;rw[Nat.add_zero] at o;have s:=aA (fun h1=>Ex y g.o h1);have t:=aA (fun r h1=>Ey (r:=r) y g.o h1);have f:=aA (JR _ lm l[k] D w.heap.size _ (p.o.on jU (aB wr (.cells #[.int .i64 l[k].op,.int .i64 l[k].val.1,.int .i64 l[k].val.2.1,.string l[k].val.2.2,.int .i64 l[k].aD7.cat,.string l[k].aD7.name,.bool l[k].aD7.aEe] 274))) qo (by rw[World.size_alloc];exact lT HB.o.size (Nat.le_succ _)));unfold JQ jP at f;clear m g D;generalize l[k]=n at *
   cases he:lG lm n with
   |none=>
    have HE:=aA (s.o he);rw[he] at f;simp only[Option.isSome_none,Option.getD_none] at f;clear s t he;go_wp2_with fail;refine f.o.mono ?_;rintro e w2 ⟨v2,rfl,j,q⟩;have HB2:=aA ((HB.o.alloc HB.o.size (.cells (iW n) 274)).trans j);clear j q f o E F G H I J;exact GU
   |some r=>
    have L:=aA (t.o r he);have V:=Kn he;rw[he] at f;simp only[Option.isSome_some,Option.getD_some] at f;clear s t he;go_wp2_with fail;refine f.o.mono ?_;rintro e w2 ⟨v2,rfl,j,q⟩;have HB2:=aA ((HB.o.alloc HB.o.size (.cells (iW n) 274)).trans j);have K:=aA q;clear j q f o E F G H I J;go_wp2;go_roundw
    case rel=>exact⟨k+1,r,qo,qo,by go_num,L,K,HB2⟩
    case measure=>simp[intOf];omega
  .have P:¬(k:Int)<(l.length:Int):=qo;obtain rfl:k=l.length:=qo;obtain rfl:=Ko g.o;clear g;obtain⟨W,vc,rfl⟩:=p.o.slice;have C:=aA (p.o.sl qo (fun _=>True) (fun _ _ _=>trivial) (fun _ _ _=>trivial) jU);by_cases A:0<l.length
   .have Q:(0:Int)<(l.length:Int):=qo;by_cases h1:lm.length=1
    .obtain⟨x,rfl⟩:∃x,lm=[x]:=List.length_eq_one_iff.1 h1;obtain⟨b,off,r,rfl,_,O,⟨rfl,_⟩,m⟩:=aH.at jU (k:=0) C.o (Nat.lt_succ_self _) qe;have o:=m 0 _ rfl;simp only[Nat.zero_mul,Nat.add_zero,List.getElem_cons_zero] at o;clear m;have N:(([x]:List Bool).length)=1:=rfl;rw[N] at p C ⊢
     cases x
     .have HV:Hid (FO l.length (some [false])=0):=aA (iN qs);exact Ui
     .have HV:Hid (FO l.length (some [true])=1):=aA (iP ⟨A,qs⟩);exact Ui
    .have HV:Hid (FO l.length (some lm)=1):=aA (iP ⟨A,fun h=>h1 (by rw[h];rfl)⟩);have h2:¬(lm.length:Int)=1:=qo;have h3:((lm.length:Int) != 1)=true:=bne_iff_ne.2 h2;exact Ui
   .have Q:¬(0:Int)<(l.length:Int):=qo;have HV:Hid (FO l.length (some lm)=0):=aA (iN (fun h=>A h.1));exact Ui
section
open Go.Maps
theorem OI{w w':World}(h:Below w.heap.size w w')(row:Option Nat):w.grownBy w' row:=⟨h.os,h.tape,h.output,h.size,fun k a _=>h.block k a⟩
theorem Fa{s t:bY}(h:s.data.toList=t.data.toList):s=t:=ByteArray.ext (Array.ext' h)
theorem wQ:Keyed prog 9:=string_keyed underlying9
theorem EB(w:World):(zeroValue 335).run prog w=.ok (.agg #[]) w:=by kernel_rfl
def NW(w:World)(mb g:Nat)(s:WS):Prop:=
 w.heap[g]? =some (.cells #[.map (some mb),.int .i64 (s.aDK:Nat)] 214 (0,0))/\mb≠g/\∃D:DataW Unit,w.ownsMap prog 9 unitElem mb s.met.length D/\∀t:bY,Maps.has D (.string t.data.toList)=s.met.any (fun u=>decide (u=t))
theorem NW.lt{w:World}{mb g:Nat}{s:WS}(h:NW w mb g s):g<w.heap.size:=(Array.getElem?_eq_some_iff.1 h.1).1
theorem NW.ltm{w:World}{mb g:Nat}{s:WS}(h:NW w mb g s):mb<w.heap.size:=by
 obtain⟨_,_,D,h1,_⟩:=h;exact h1.lt
theorem NW.on{w w':World}{mb g:Nat}{s:WS}(h:NW w mb g s)(a:Below w.heap.size w w'):NW w' mb g s:=by
 have b:=h.lt;obtain⟨h1,h2,D,h3,h4⟩:=h;exact⟨(a.block g b).trans h1,h2,D,h3.kept (OI a none) qs,h4⟩
theorem Ww{l:List ByteArray}{s t:bY}{D:DataW Unit}(h:∀t:bY,Maps.has D (.string t.data.toList)=l.any (fun u=>decide (u=t)))(b:Tidy D):Maps.has (D.put (.string s.data.toList) (.agg [])) (.string t.data.toList)=(s::l).any (fun u=>decide (u=t)):=by
 rw[List.any_cons];by_cases a:s=t
 .subst a;rw[has_put_same (k:= .string s.data.toList) b.isMap True.intro];simp
 .rw[has_put_other (by intro e;injection e with e;exact a (Fa e.symm)),h t,dF a,Bool.false_or]
def oO(w:World)(mb g:Nat)(s:WS)(v:Value)(e:Ending)(w':World):Prop:=e=.returned v/\NW w' mb g s/\aN (fun b=>b≠g/\b≠mb) w w'
theorem AP(n:bY)(d:n.size<=cQ)(mb g:Nat)(s:WS)(hm:s.met.length<=1000000)(w:World)(h:NW w mb g s):Calls prog 209 #[.pointer (some ⟨g,0,none⟩),.string n] w (oO w mb g (gQ n s).2 (.bool (gQ n s).1)):=by
 have p:=h.lt;have F:=h.ltm;have H:=aA h;obtain⟨h1,h2,D,h3,h4⟩:=h;obtain⟨⟨c0,c1⟩,f0,f1⟩:=fM h1;have f:=aA (fun w=>oV n (by unfold cQ at d;unfold maxLen;omega) w);have i:keyOf prog 9 (.string n)=some (.string n.data.toList):=WideMaps.keyOf_string_mk underlying9 (by unfold cQ at d;unfold maxLen;omega);obtain⟨c,j,a⟩:=aY (h4 n) h3 (aB w (.cells #[] 335));unfold oO gQ;by_cases b:s.met.any (fun t=>decide (t=n))=true
 .rw[iP (.inl b)];have A:Maps.has D (.string n.data.toList)=true:=by rw[c.o];exact b
  clear h1 h3 h4 b c d hm;go_enter func209,ntmps209;go_wp2_with (at_lookup;refine wpList_lookup_own_unit _ rfl _ _ 212 rfl 9 335 wQ underlying212 (EB _) mb s.met.length D rfl j.o _ (.string n.data.toList) rfl i ?_)
  go_returns;exact⟨rfl,H.o.on a.o,aJ a.o⟩
 have A:Maps.has D (.string n.data.toList)=false:=by rw[c.o];exact eq_false_of_ne_true b
 cases l:eL n
 .rw[iP (.inr rfl)];rw[l] at f;clear h1 h3 h4 b c d hm;go_enter func209,ntmps209;go_wp2_with (first
   |(at_lookup;refine wpList_lookup_own_unit _ rfl _ _ 212 rfl 9 335 wQ underlying212 (EB _) mb s.met.length D rfl j.o _ (.string n.data.toList) rfl i ?_)
   |(go_at_call 96;refine(f.o _).mono ?_;rintro e w2 ⟨rfl,rfl⟩))
  go_returns;exact⟨rfl,H.o.on a.o,aJ a.o⟩
 rw[iN (fun h=>h.elim (fun h=>b h) (fun h=>by cases h))];rw[l] at f;obtain⟨B,x,y⟩:=aY (h3.tidy wQ) h4 hm;obtain⟨I,G⟩:=xE (w.alloc (.cells #[] 335));obtain⟨v,r,J⟩:=aY (h3.alloc (.cells #[] 335)) (aE h1 a.o) (⟨p,F⟩:g<w.heap.size/\mb<w.heap.size);clear h1 h3 h4 b c d hm l G I;go_enter func209,ntmps209;go_wp2_with (first
  |(at_lookup;refine wpList_lookup_own_unit _ rfl _ _ 212 rfl 9 335 wQ underlying212 (EB _) mb s.met.length D rfl j.o _ (.string n.data.toList) rfl i ?_)
  |(go_at_call 96;refine(f.o _).mono ?_;rintro e w2 ⟨rfl,rfl⟩)
  |(at_mapUpdate;refine wpList_mapUpdate_own _ rfl _ _ _ 212 rfl 9 335 wQ underlying212 (unitElem (H:=Unit)) mb s.met.length D rfl v.o (by have:=y.o;unfold maxLen;omega) _ _ _ rfl rfl i _ [] unitElem_mk ?_;intro K q o;have z:=aA q;have m:=aA o;clear q o))
 go_returns;have C:=(m.o.block g (lL p a.o.size) (fun e=>h2 (by injection e with e;exact e.symm))).trans r.o;refine⟨rfl,⟨C,h2,_,z.o,fun t=>Ww x.o B.o⟩,?_⟩;exact(aJ a.o).trans ((cY m.o).mono fun k _ E=>fun e=>E.2 (by injection e))
end
theorem yE(n:bY)(s:WS):(gQ n s).2.aDK=s.aDK:=by
 unfold gQ;by_cases h:s.met.any (fun t=>decide (t=n))=true\/eL n=false
 .rw[iP h]
 .rw[iN h]
theorem QJ(n:bY)(s:WS):(gQ n s).2.met.length<=s.met.length+1:=by
 unfold gQ;by_cases h:s.met.any (fun t=>decide (t=n))=true\/eL n=false
 .rw[iP h];exact Nat.le_succ _
 .rw[iN h];exact lR _
theorem Kr{r:Ru}{s s1:WS}(h:gQ r.id s=(false,s1)):fS r s=(1,s1):=by
 unfold fS;rw[h];rfl
theorem Fb{r:Ru}{s s1:WS}(h:gQ r.id s=(true,s1))(h1:64<s1.aDK+1):fS r s=(6,{s1 with aDK:=s1.aDK+1}):=by
 unfold fS;rw[h];simp only[Bool.true_eq_false,if_false,iP h1]
theorem WB{r:Ru}{s s1:WS}(h:gQ r.id s=(true,s1))(h1:¬64<s1.aDK+1)(h2:fA r.aDR≠0):fS r s=(fA r.aDR,{s1 with aDK:=s1.aDK+1}):=by
 unfold fS;rw[h];simp only[Bool.true_eq_false,if_false,iN h1,iP h2]
theorem Fc{r:Ru}{s s1:WS}(h:gQ r.id s=(true,s1))(h1:¬64<s1.aDK+1)(h2:fA r.aDR=0)(h3:lH r.cond≠0):fS r s=(lH r.cond,{s1 with aDK:=s1.aDK+1}):=by
 unfold fS;rw[h];simp only[Bool.true_eq_false,if_false,iN h1,h2,ne_eq,not_true_eq_false,iP h3]
theorem Fe{r:Ru}{s s1:WS}(h:gQ r.id s=(true,s1))(h1:¬64<s1.aDK+1)(h2:fA r.aDR=0)(h3:lH r.cond=0):fS r s=(lI r.aDX,{s1 with aDK:=s1.aDK+1}):=by
 unfold fS;rw[h];simp only[Bool.true_eq_false,if_false,iN h1,h2,h3,ne_eq,not_true_eq_false]
theorem NW.more{w:World}{mb g q:Nat}{s:WS}(h:NW w mb g s)(b:q=s.aDK+1):NW (w.setCell ⟨g,1,none⟩ (.int .i64 (q:Nat))) mb g {s with aDK:=s.aDK+1}:=by
 obtain⟨h1,h2,D,h3,h4⟩:=h;subst b;refine⟨aG h1 1 _,h2,D,?_,h4⟩;exact h3.kept (row:=some g) ⟨rfl,rfl,rfl,by simp[World.setCell],fun k c a=>Below.heap_setCell _ _ _ _ (fun e=>a (by rw[e]))⟩ (fun e=>h2 (by injection e))
theorem iI{w:World}{g mb i:Nat}(v:Value):aN (fun b=>b≠g/\b≠mb) w (w.setCell ⟨g,i,none⟩ v):=(aI v).mono fun k _ h=>h.1
theorem Ks{ok:nP}(r:Ru)(vt vc vo:Value)(mb g:Nat)(s:WS)(hm:s.met.length<=1000000)(hr:s.aDK<=1000000)(w:World)(h:NW w mb g s)(hp:rW w ok r vt vc vo)(ho:∀b,ok b->b≠g/\b≠mb):Calls prog 170 #[.pointer (some ⟨g,0,none⟩),.agg #[.string r.id,.bool r.aEi,vt,vc,vo]] w (oO w mb g (fS r s).2 (.int .i64 (fS r s).1)):=by
 have ai:=h.lt;have aj:=h.ltm;obtain⟨Y,Z,rfl,_⟩:=hp.2.1.slice;obtain⟨T,U,rfl,_⟩:=hp.2.2.1.slice;obtain⟨W,X,rfl,_⟩:=hp.2.2.2.slice;obtain⟨n,p,t,v,D⟩:=gG (AP r.id hp.1 mb g s hm _ (h.on (aB w (.cells #[.string r.id,.bool r.aEi,.slice Y r.aDR.length Z,.slice T r.cond.length U,.slice W r.aDX.length X] 252)))) (aK w (.cells #[.string r.id,.bool r.aEi,.slice Y r.aDR.length Z,.slice T r.cond.length U,.slice W r.aDX.length X] 252) _ rfl) (aB w (.cells #[.string r.id,.bool r.aEi,.slice Y r.aDR.length Z,.slice T r.cond.length U,.slice W r.aDX.length X] 252)) hp ho;have ad:=yE r.id s;unfold oO;unfold oO at n;obtain⟨ah,s1,o⟩:∃a b,gQ r.id s=(a,b):=⟨_,_,rfl⟩;rw[o] at n ad;simp only at n ad;clear h hp ho
 cases ah
 .rw[Kr o];simp only;clear o;go_enter func170,ntmps170;go_wp2_with fail;refine n.o.mono ?_;rintro e w1 ⟨rfl,f,j⟩;have k:=qS p j ⟨qo,qo⟩;have m:=aA ((aJ t.o).trans j);have F:=aA (v.o.aDQ (m.o.mono fun b _ l=>D.o b l));obtain⟨⟨y,z,A,B,C⟩,_⟩:=dN k.o;have x:=aD k.o;have V:=f.lt;have E:=aA f;obtain⟨⟨c0,c1⟩,f0,f1⟩:=fM f.1;clear f j n v p t;go_wp2;go_returns;exact⟨rfl,E.o,m.o⟩
 obtain⟨q,hq⟩:=xE (s1.aDK+1);have e1:IntKind.i64.wrap ((s1.aDK:Int)+1)=(q:Int):=by rw[IntWalk.i64_in _ qo];omega
 have H:=aA hq;clear hq ad;by_cases h64:64<q
 .rw[Fb o (qA H.o)];simp only;clear o;have d:decide ((q:Int) > 64)=true:=dX qo;go_enter func170,ntmps170;go_wp2_with fail;refine n.o.mono ?_;rintro e w1 ⟨rfl,f,j⟩;have k:=qS p j ⟨qo,qo⟩;have m:=aA ((aJ t.o).trans j);have F:=aA (v.o.aDQ (m.o.mono fun b _ l=>D.o b l));obtain⟨⟨y,z,A,B,C⟩,_⟩:=dN k.o;have x:=aD k.o;have V:=f.lt;have E:=aA f;obtain⟨⟨c0,c1⟩,f0,f1⟩:=fM f.1;clear f j n v p t;have L:=aA (E.o.more H.o);have K:=aA (m.o.trans (iI (g:=g) (mb:=mb) (i:=1) (.int .i64 (q:Nat))));have G:=aA (F.o.aDQ ((iI (g:=g) (mb:=mb) (i:=1) (.int .i64 (q:Nat))).mono fun b _ l=>D.o b l));have P:=qS k (iI (g:=g) (mb:=mb) (i:=1) (.int .i64 (q:Nat))) ⟨qo,qo⟩;go_wp2;go_returns;exact⟨rfl,L.o,K.o⟩
 have d:decide ((q:Int) > 64)=false:=dF qo;have I:=aA (fun w h=>LO (ok:=ok) (.slice Y r.aDR.length Z) r.aDR w h);unfold aP at I;by_cases J:fA r.aDR=0
 case neg=>
  rw[WB o (qA H.o) J];simp only;clear o;have d2:(fA r.aDR != 0)=true:=bne_iff_ne.2 J;clear J;generalize fA r.aDR=te at *;go_enter func170,ntmps170;go_wp2_with fail;refine n.o.mono ?_;rintro e w1 ⟨rfl,f,j⟩;have k:=qS p j ⟨qo,qo⟩;have m:=aA ((aJ t.o).trans j);have F:=aA (v.o.aDQ (m.o.mono fun b _ l=>D.o b l));obtain⟨⟨y,z,A,B,C⟩,_⟩:=dN k.o;have x:=aD k.o;have V:=f.lt;have E:=aA f;obtain⟨⟨c0,c1⟩,f0,f1⟩:=fM f.1;clear f j n v p t;have L:=aA (E.o.more H.o);have K:=aA (m.o.trans (iI (g:=g) (mb:=mb) (i:=1) (.int .i64 (q:Nat))));have G:=aA (F.o.aDQ ((iI (g:=g) (mb:=mb) (i:=1) (.int .i64 (q:Nat))).mono fun b _ l=>D.o b l));have P:=qS k (iI (g:=g) (mb:=mb) (i:=1) (.int .i64 (q:Nat))) ⟨qo,qo⟩;go_wp2_with fail;refine(I.o _ G.o.2.1).mono ?_;rintro e w3 ⟨rfl,c⟩;have R:=aA (L.o.on c);have Q:=aA (K.o.trans (aJ c));clear c I;go_wp2;go_returns;exact⟨rfl,R.o,Q.o⟩
 have N:=aA (fun w h=>IE (ok:=ok) (.slice T r.cond.length U) r.cond w h);unfold aP at N;rw[J] at I;by_cases O:lH r.cond=0
 case neg=>
  rw[Fc o (qA H.o) J O];simp only;clear o;have d2:(lH r.cond != 0)=true:=bne_iff_ne.2 O;clear J O;generalize lH r.cond=te at *;go_enter func170,ntmps170;go_wp2_with fail;refine n.o.mono ?_;rintro e w1 ⟨rfl,f,j⟩;have k:=qS p j ⟨qo,qo⟩;have m:=aA ((aJ t.o).trans j);have F:=aA (v.o.aDQ (m.o.mono fun b _ l=>D.o b l));obtain⟨⟨y,z,A,B,C⟩,_⟩:=dN k.o;have x:=aD k.o;have V:=f.lt;have E:=aA f;obtain⟨⟨c0,c1⟩,f0,f1⟩:=fM f.1;clear f j n v p t;have L:=aA (E.o.more H.o);have K:=aA (m.o.trans (iI (g:=g) (mb:=mb) (i:=1) (.int .i64 (q:Nat))));have G:=aA (F.o.aDQ ((iI (g:=g) (mb:=mb) (i:=1) (.int .i64 (q:Nat))).mono fun b _ l=>D.o b l));have P:=qS k (iI (g:=g) (mb:=mb) (i:=1) (.int .i64 (q:Nat))) ⟨qo,qo⟩;go_wp2_with fail;refine(I.o _ G.o.2.1).mono ?_;rintro e w3 ⟨rfl,c⟩;obtain⟨R,Q,S,M⟩:=dI (L.o.on c) (K.o.trans (aJ c)) (G.o.aDQ (aJ c)) (aE P.o c);clear y z A B C x c I;obtain⟨⟨y,z,A,B,C⟩,_⟩:=dN M.o;have x:=aD M.o;go_wp2_with fail;refine(N.o _ S.o.2.2.1).mono ?_;rintro e w4 ⟨rfl,c⟩;have ab:=aA (R.o.on c);have aa:=aA (Q.o.trans (aJ c));clear c N;go_wp2;go_returns;exact⟨rfl,ab.o,aa.o⟩
 rw[O] at N;have HL:=aA (fun w h=>VY (ok:=ok) (.slice W r.aDX.length X) r.aDX w h);unfold aP at HL;rw[Fe o (qA H.o) J O];simp only;clear o J O;generalize lI r.aDX=oe at *;go_enter func170,ntmps170;go_wp2_with fail;refine n.o.mono ?_;rintro e w1 ⟨rfl,f,j⟩;have k:=qS p j ⟨qo,qo⟩;have m:=aA ((aJ t.o).trans j);have F:=aA (v.o.aDQ (m.o.mono fun b _ l=>D.o b l));obtain⟨⟨y,z,A,B,C⟩,_⟩:=dN k.o;have x:=aD k.o;have V:=f.lt;have E:=aA f;obtain⟨⟨c0,c1⟩,f0,f1⟩:=fM f.1;clear f j n v p t;have L:=aA (E.o.more H.o);have K:=aA (m.o.trans (iI (g:=g) (mb:=mb) (i:=1) (.int .i64 (q:Nat))));have G:=aA (F.o.aDQ ((iI (g:=g) (mb:=mb) (i:=1) (.int .i64 (q:Nat))).mono fun b _ l=>D.o b l));have P:=qS k (iI (g:=g) (mb:=mb) (i:=1) (.int .i64 (q:Nat))) ⟨qo,qo⟩;go_wp2_with fail;refine(I.o _ G.o.2.1).mono ?_;rintro e w3 ⟨rfl,c⟩;obtain⟨R,Q,S,M⟩:=dI (L.o.on c) (K.o.trans (aJ c)) (G.o.aDQ (aJ c)) (aE P.o c);clear y z A B C x c I;obtain⟨⟨y,z,A,B,C⟩,_⟩:=dN M.o;have x:=aD M.o;go_wp2_with fail;refine(N.o _ S.o.2.2.1).mono ?_;rintro e w4 ⟨rfl,c⟩;obtain⟨ab,aa,af,B4⟩:=dI (R.o.on c) (Q.o.trans (aJ c)) (S.o.aDQ (aJ c)) (aE M.o c);clear y z A B C x c N;obtain⟨⟨y,z,A,B,C⟩,_⟩:=dN B4.o;have x:=aD B4.o;go_wp2_with fail;refine(HL.o _ af.o.2.2.2).mono ?_;rintro e w5 ⟨rfl,c⟩;have ag:=aA (ab.o.on c);have ae:=aA (aa.o.trans (aJ c));clear c HL;go_wp2;go_returns;exact⟨rfl,ag.o,ae.o⟩
theorem QAJ{p:Prop}(h:p:=by
 rw[WC hnw hc1 hc2 ht];simp only;rw[hset] at HN B0 HB0;clear hnw hc1 hc2 h1 h2;have d9:(fA p.aDR != 0)=true:=bne_iff_ne.2 ht;clear ht;generalize fA p.aDR=te at *;go_enter func169,ntmps169;go_wp2_with fail;refine HN.o.mono ?_;rintro e w1 ⟨rfl,hn_,k_⟩;have B1:=qS B0 k_ ⟨qo,qo⟩;have HK:=aA ((aJ HB0.o).trans k_);have HP1:=aA (HP.o.aDQ (HK.o.mono fun b _ hb=>HO.o b hb));obtain⟨⟨x0,x1,x2,x3,x4,x5,x6⟩,_⟩:=bI B1.o;have hz:=aD B1.o;have HW1:=aA hn_;clear hn_ k_ HN HP B0 HB0;go_wp2_with fail;refine(HT.o _ HP1.o.2.2.1).mono ?_;rintro e w2 ⟨rfl,hb_⟩;have HW2:=aA (HW1.o.on hb_);have HK2:=aA (HK.o.trans (aJ hb_));clear hb_ HT;go_wp2;go_returns;exact⟨rfl,HW2.o,HK2.o⟩):p:=h
theorem QAA{p:Prop}(h:p:=by
 rw[Ff hnw hc1 hc2 ht hl];simp only;rw[hset] at HN B0 HB0;clear hnw hc1 hc2 h1 h2 ht;have d9:(lI p.aDX != 0)=true:=bne_iff_ne.2 hl;clear hl;generalize lI p.aDX=te at *;go_enter func169,ntmps169;go_wp2_with fail;refine HN.o.mono ?_;rintro e w1 ⟨rfl,hn_,k_⟩;have B1:=qS B0 k_ ⟨qo,qo⟩;have HK:=aA ((aJ HB0.o).trans k_);have HP1:=aA (HP.o.aDQ (HK.o.mono fun b _ hb=>HO.o b hb));obtain⟨⟨x0,x1,x2,x3,x4,x5,x6⟩,_⟩:=bI B1.o;have hz:=aD B1.o;have HW1:=aA hn_;clear hn_ k_ HN HP B0 HB0;go_wp2_with fail;refine(HT.o _ HP1.o.2.2.1).mono ?_;rintro e w2 ⟨rfl,hb_⟩;have HW2:=aA (HW1.o.on hb_);have HK2:=aA (HK.o.trans (aJ hb_));have HP2:=aA (HP1.o.aDQ (aJ hb_));have B2:=qK B1 hb_;clear x0 x1 x2 x3 x4 x5 x6 hz hb_ HT;obtain⟨⟨x0,x1,x2,x3,x4,x5,x6⟩,_⟩:=bI B2.o;have hz:=aD B2.o;go_wp2_with fail;refine(HL.o _ HP2.o.2.2.2.2.2).mono ?_;rintro e w3 ⟨rfl,hb_⟩;have HW3:=aA (HW2.o.on hb_);have HK3:=aA (HK2.o.trans (aJ hb_));clear hb_ HL;go_wp2;go_returns;exact⟨rfl,HW3.o,HK3.o⟩):p:=h
theorem Bf{p:Prop}(h:p:=by
 go_enter func169,ntmps169;go_wp2_with fail;refine HN.o.mono ?_;rintro e w1 ⟨rfl,hn_,k_⟩;have B1:=qS B0 k_ ⟨qo,qo⟩;have HK:=aA ((aJ HB0.o).trans k_);have HP1:=aA (HP.o.aDQ (HK.o.mono fun b _ hb=>HO.o b hb));obtain⟨⟨x0,x1,x2,x3,x4,x5,x6⟩,_⟩:=bI B1.o;have hz:=aD B1.o;have HW1:=aA hn_;clear hn_ k_ HN HP B0 HB0;go_wp2;go_returns;exact⟨rfl,HW1.o,HK.o⟩):p:=h
theorem Uj{p:Prop}(h:p:=by
 go_enter func169,ntmps169;go_wp2_with fail;refine HN.o.mono ?_;rintro e w1 ⟨rfl,hn_,k_⟩;have B1:=qS B0 k_ ⟨qo,qo⟩;have HK:=aA ((aJ HB0.o).trans k_);have HP1:=aA (HP.o.aDQ (HK.o.mono fun b _ hb=>HO.o b hb));obtain⟨⟨x0,x1,x2,x3,x4,x5,x6⟩,_⟩:=bI B1.o;have hz:=aD B1.o;have HW1:=aA hn_;clear hn_ k_ HN HP B0 HB0;go_wp2_with fail;refine(HT.o _ HP1.o.2.2.1).mono ?_;rintro e w2 ⟨rfl,hb_⟩;have HW2:=aA (HW1.o.on hb_);have HK2:=aA (HK.o.trans (aJ hb_));have HP2:=aA (HP1.o.aDQ (aJ hb_));have B2:=qK B1 hb_;clear x0 x1 x2 x3 x4 x5 x6 hz hb_ HT;obtain⟨⟨x0,x1,x2,x3,x4,x5,x6⟩,_⟩:=bI B2.o;have hz:=aD B2.o;go_wp2_with fail;refine(HL.o _ HP2.o.2.2.2.2.2).mono ?_;rintro e w3 ⟨rfl,hb_⟩;have HW3:=aA (HW2.o.on hb_);have HK3:=aA (HK2.o.trans (aJ hb_));have HP3:=aA (HP2.o.aDQ (aJ hb_));have B3:=qK B2 hb_;clear x0 x1 x2 x3 x4 x5 x6 hz hb_ HL;obtain⟨⟨x0,x1,x2,x3,x4,x5,x6⟩,_⟩:=bI B3.o;have hz:=aD B3.o;go_wp2;go_returns;exact⟨rfl,HW3.o,HK3.o⟩):p:=h
theorem EC{p:Po}{s s1:WS}{a:Bool}(h:gQ p.id s=(a,s1))(h1:a=false\/p.alg<1\/6<p.alg):fL p s=(1,s1):=by
 unfold fL;rw[h];exact iP h1
theorem BC{p:Po}{s s1:WS}{a:Bool}(h:gQ p.id s=(a,s1))(h1:¬(a=false\/p.alg<1\/6<p.alg))(h2:(p.set=true/\p.aDK≠[])\/(p.set=false/\(0<p.aDV.length\/p.alg=4))):fL p s=(1,s1):=by
 unfold fL;rw[h];simp only[iN h1,iP h2]
theorem WC{p:Po}{s s1:WS}{a:Bool}(h:gQ p.id s=(a,s1))(h1:¬(a=false\/p.alg<1\/6<p.alg))(h2:¬((p.set=true/\p.aDK≠[])\/(p.set=false/\(0<p.aDV.length\/p.alg=4))))(h3:fA p.aDR≠0):fL p s=(fA p.aDR,s1):=by
 unfold fL;rw[h];simp only[iN h1,iN h2,iP h3]
theorem Ff{p:Po}{s s1:WS}{a:Bool}(h:gQ p.id s=(a,s1))(h1:¬(a=false\/p.alg<1\/6<p.alg))(h2:¬((p.set=true/\p.aDK≠[])\/(p.set=false/\(0<p.aDV.length\/p.alg=4))))(h3:fA p.aDR=0)(h4:lI p.aDX≠0):fL p s=(lI p.aDX,s1):=by
 unfold fL;rw[h];simp only[iN h1,iN h2,h3,ne_eq,not_true_eq_false,if_false,iP h4]
theorem QK{p:Po}{s s1:WS}{a:Bool}(h:gQ p.id s=(a,s1))(h1:¬(a=false\/p.alg<1\/6<p.alg))(h2:¬((p.set=true/\p.aDK≠[])\/(p.set=false/\(0<p.aDV.length\/p.alg=4))))(h3:fA p.aDR=0)(h4:lI p.aDX=0):fL p s=(if 16<p.aDK.length\/16<p.aDV.length then 6 else 0,s1):=by
 unfold fL;rw[h];simp only[iN h1,iN h2,h3,h4,ne_eq,not_true_eq_false,if_false];by_cases h5:16<p.aDK.length\/16<p.aDV.length
 .rw[iP h5,iP h5]
 .rw[iN h5,iN h5]
theorem Qu{n:Nat}{ok:nP}(p:Po)(vt vr vk vo:Value)(mb g:Nat)(s:WS)(hm:s.met.length<=1000000)(w:World)(h:NW w mb g s)(hp:fO n w ok p vt vr vk vo)(q:∀b,ok b->b≠g/\b≠mb):Calls prog 169 #[.pointer (some ⟨g,0,none⟩),.agg #[.string p.id,.bool p.set,.int .i64 p.alg,vt,vr,vk,vo]] w (oO w mb g (fL p s).2 (.int .i64 (fL p s).1)):=by
 have x:=h.lt;have y:=h.ltm;obtain⟨i,j,rfl,_⟩:=hp.2.2.1.slice;obtain⟨ra,rc,rfl,v⟩:=hp.2.2.2.1.slice;obtain⟨l,m,rfl,t⟩:=hp.2.2.2.2.1.slice;obtain⟨d,f,rfl,_⟩:=hp.2.2.2.2.2.slice;obtain⟨HN,B0,HB0,HP,HO⟩:=gG (AP p.id hp.1 mb g s hm _ (h.on (aB w (.cells #[.string p.id,.bool p.set,.int .i64 p.alg,.slice i p.aDR.length j,.slice ra p.aDK.length rc,.slice l p.aDV.length m,.slice d p.aDX.length f] 50)))) (aK w (.cells #[.string p.id,.bool p.set,.int .i64 p.alg,.slice i p.aDR.length j,.slice ra p.aDK.length rc,.slice l p.aDV.length m,.slice d p.aDX.length f] 50) _ rfl) (aB w (.cells #[.string p.id,.bool p.set,.int .i64 p.alg,.slice i p.aDR.length j,.slice ra p.aDK.length rc,.slice l p.aDV.length m,.slice d p.aDX.length f] 50)) hp q;unfold oO;unfold oO at HN;obtain⟨r,s1,hnw⟩:∃a b,gQ p.id s=(a,b):=⟨_,_,rfl⟩;rw[hnw] at HN;simp only at HN;clear h hp q
 cases r
 .rw[EC hnw (.inl rfl)];simp only;clear hnw;exact Bf
 by_cases h1:p.alg<1
 .rw[EC hnw (.inr (.inl h1))];simp only;have d1:decide (p.alg<1)=true:=dX h1;clear hnw h1;exact Bf
 have d1:decide (p.alg<1)=false:=dF h1;by_cases h2:6<p.alg
 .rw[EC hnw (.inr (.inr h2))];simp only;have d2:decide (p.alg > 6)=true:=dX h2;clear hnw h1 h2;exact Bf
 have d2:decide (p.alg > 6)=false:=dF h2;have hc1:¬(true=false\/p.alg<1\/6<p.alg):=by rintro (h|h|h);cases h;exact h1 h;exact h2 h
 have HT:=aA (fun w h=>LO (ok:=ok) (.slice i p.aDR.length j) p.aDR w h);unfold aP at HT;have HL:=aA (fun w h=>VY (ok:=ok) (.slice d p.aDX.length f) p.aDX w h);unfold aP at HL
 cases hset:p.set
 .by_cases o:0<p.aDV.length
  .rw[BC hnw hc1 (.inr ⟨hset,.inl o⟩)];simp only;rw[hset] at HN B0 HB0;have d3:decide ((p.aDV.length:Int) > 0)=true:=dX qo;clear hnw h1 h2 hc1 HT HL;exact Bf
  have d3:decide ((p.aDV.length:Int) > 0)=false:=dF qo;by_cases h4:p.alg=4
  .rw[BC hnw hc1 (.inr ⟨hset,.inr h4⟩)];simp only;rw[hset] at HN B0 HB0;have d4:(p.alg==4)=true:=bQ.2 h4;clear hnw h1 h2 hc1 HT HL h4;exact Bf
  have d4:(p.alg==4)=false:=bN.2 h4;have hc2:¬((p.set=true/\p.aDK≠[])\/(p.set=false/\(0<p.aDV.length\/p.alg=4))):=by rintro (h|h);rw[hset] at h;cases h.1;exact h.2.elim o h4
  by_cases ht:fA p.aDR=0
  case neg=>
   exact QAJ
  rw[ht] at HT;by_cases hl:lI p.aDX=0
  case neg=>
   exact QAA
  rw[hl] at HL;rw[QK hnw hc1 hc2 ht hl];simp only;rw[hset] at HN B0 HB0;clear hnw hc1 hc2 h1 h2 ht hl;by_cases h16:16<p.aDK.length
  .rw[iP (.inl h16)];have d9:decide ((p.aDK.length:Int) > 16)=true:=dX qo;exact Uj
  have d9:decide ((p.aDK.length:Int) > 16)=false:=dF qo;by_cases c:16<p.aDV.length
  .exact absurd c qo
  have d10:decide ((p.aDV.length:Int) > 16)=false:=dF qo;rw[iN (fun h=>h.elim h16 c)];exact Uj
 .by_cases k:0<p.aDK.length
  .rw[BC hnw hc1 (.inl ⟨hset,fun e=>by rw[e] at k;exact absurd k qe⟩)];simp only;rw[hset] at HN B0 HB0;have d3:decide ((p.aDK.length:Int) > 0)=true:=dX qo;clear hnw h1 h2 hc1 HT HL;exact Bf
  have d3:decide ((p.aDK.length:Int) > 0)=false:=dF qo;have hc2:¬((p.set=true/\p.aDK≠[])\/(p.set=false/\(0<p.aDV.length\/p.alg=4))):=by rintro (h|h);exact k (List.length_pos_iff.2 h.2);rw[hset] at h;cases h.1
  by_cases ht:fA p.aDR=0
  case neg=>
   exact QAJ
  rw[ht] at HT;by_cases hl:lI p.aDX=0
  case neg=>
   exact QAA
  rw[hl] at HL;rw[QK hnw hc1 hc2 ht hl];simp only;rw[hset] at HN B0 HB0;clear hnw hc1 hc2 h1 h2 ht hl;by_cases h16:16<p.aDK.length
  .exact absurd h16 qo
  have d9:decide ((p.aDK.length:Int) > 16)=false:=dF qo;by_cases c:16<p.aDV.length
  .rw[iP (.inr c)];have d10:decide ((p.aDV.length:Int) > 16)=true:=dX qo;exact Uj
  have d10:decide ((p.aDV.length:Int) > 16)=false:=dF qo;rw[iN (fun h=>h.elim h16 c)];exact Uj
def pK(b:Nat)(s t:WS):Prop:=t.met.length<=s.met.length+b/\t.aDK<=s.aDK+b
theorem pK.trans{a b:Nat}{s t u:WS}(h:pK a s t)(k:pK b t u):pK (a+b) s u:=⟨qD h.1 k.1,qD h.2 k.2⟩
theorem pK.more{a b:Nat}{s t:WS}(h:pK a s t)(k:a<=b):pK b s t:=⟨qA h.1,qA h.2⟩
theorem pK.refl(b:Nat)(s:WS):pK b s s:=⟨qo,qo⟩
theorem Kt(n:bY)(s:WS):pK 1 s (gQ n s).2:=⟨QJ n s,by rw[yE];omega⟩
theorem QL(r:Ru)(s:WS):pK 1 s (fS r s).2:=by
 have h:=QJ r.id s;have h2:=yE r.id s;unfold fS;generalize gQ r.id s=q at *;obtain⟨a,s1⟩:=q;simp only at h h2 ⊢;unfold pK;split
 .exact⟨h,by simp only;omega⟩
 split
 .exact⟨h,by simp only;omega⟩
 split
 .exact⟨h,by simp only;omega⟩
 split
 .exact⟨h,by simp only;omega⟩
 .exact⟨h,by simp only;omega⟩
theorem QM(p:Po)(s:WS):pK 1 s (fL p s).2:=by
 have h:=Kt p.id s;unfold fL;generalize gQ p.id s=q at *;obtain⟨a,s1⟩:=q;simp only at h ⊢
 repeat' split
 all_goals exact h
theorem vJ{p:Po}{s:WS}(h:(fL p s).1=0):p.aDK.length<=16/\p.aDV.length<=16:=by
 unfold fL at h;generalize gQ p.id s=q at *;obtain⟨b,s1⟩:=q;simp only at h;by_cases h1:b=false\/p.alg<1\/6<p.alg
 .rw[iP h1] at h;simp at h
 rw[iN h1] at h;by_cases h2:(p.set=true/\p.aDK≠[])\/(p.set=false/\(0<p.aDV.length\/p.alg=4))
 .rw[iP h2] at h;simp at h
 rw[iN h2] at h;by_cases h3:fA p.aDR=0
 case neg=>rw[iP h3] at h;exact absurd h h3
 rw[iN (fun a=>a h3)] at h;by_cases h4:lI p.aDX=0
 case neg=>rw[iP h4] at h;exact absurd h h4
 rw[iN (fun a=>a h4)] at h;by_cases h5:16<p.aDK.length\/16<p.aDV.length
 .rw[iP h5] at h;simp at h
 .omega
theorem JS{α:Type}{f:α->WS->Int×WS}{b:Nat}(c:∀x s,pK b s (f x s).2):∀(l:List α) (s:WS),pK (l.length * b) s (jH f l s).2
 | [],s=>pK.refl _ s
 |x::l,s=>by
  have h1:=c x s;have h2:=JS c l (f x s).2;unfold jH;generalize f x s=q at *;obtain⟨e,s1⟩:=q;simp only at h1 h2 ⊢;have a:(x::l).length * b=b+l.length * b:=by rw[List.length_cons,Nat.add_mul];omega
  by_cases he:e≠0
  .rw[iP he];exact h1.more (by rw[a];omega)
  .rw[iN he,a];exact h1.trans h2
def lE:Nat->Nat
 |0=>0
 |n+1=>17+16 * lE n
theorem ED{n:Nat}{p:Po}{s:WS}(h:(fL p s).1≠0):eQ (n+1) p s=fL p s:=by
 unfold eQ;generalize fL p s=q at *;obtain⟨e,s1⟩:=q;exact iP h
theorem CA{n:Nat}{p:Po}{s s1:WS}(h:fL p s=(0,s1))(h1:(jH fS p.aDK s1).1≠0):eQ (n+1) p s=jH fS p.aDK s1:=by
 unfold eQ;rw[h];simp only[ne_eq,not_true_eq_false,if_false];generalize jH fS p.aDK s1=q at *;obtain⟨e,s2⟩:=q;exact iP h1
theorem EE{n:Nat}{p:Po}{s s1 s2:WS}(h:fL p s=(0,s1))(h1:jH fS p.aDK s1=(0,s2)):eQ (n+1) p s=jH (eQ n) p.aDV s2:=by
 unfold eQ;rw[h];simp only[ne_eq,not_true_eq_false,if_false];rw[h1];simp only[not_true_eq_false,if_false]
theorem IF:∀(n:Nat) (p:Po) (s:WS),pK (lE n) s (eQ n p s).2
 |0,p,s=>pK.refl _ s
 |n+1,p,s=>by
  have h1:=QM p s;have e:=vJ (p:=p) (s:=s);by_cases a:(fL p s).1=0
  case neg=>rw[ED a];exact h1.more (by unfold lE;omega)
  obtain⟨g,f⟩:=e a;obtain⟨s1,b⟩:∃s1,fL p s=(0,s1):=⟨_,Prod.ext a rfl⟩;rw[b] at h1;have h2:=JS QL p.aDK s1;by_cases c:(jH fS p.aDK s1).1=0
  case neg=>rw[CA b c];exact(h1.trans h2).more (by unfold lE;omega)
  obtain⟨s2,d⟩:∃s2,jH fS p.aDK s1=(0,s2):=⟨_,Prod.ext c rfl⟩;rw[d] at h2;rw[EE b d];refine((h1.trans h2).trans (JS (IF n) p.aDV s2)).more ?_;have:=Nat.mul_le_mul_right (lE n) f;show 1+p.aDK.length * 1+p.aDV.length * lE n<=17+16 * lE n;omega
section
variable {α:Type} {f:α->WS->Int×WS} {l:List α} {k:Nat} {s:WS} {res:Int×WS}
theorem QN(a:k<l.length)(h:jH f (l.drop k) s=res)(h1:(f l[k] s).1≠0):res=f l[k] s:=by
 rw[<-h,List.drop_eq_getElem_cons a];unfold jH;generalize f l[k] s=q at *;obtain⟨e,s1⟩:=q;exact iP h1
theorem Bg{s1:WS}(a:k<l.length)(h:jH f (l.drop k) s=res)(h1:f l[k] s=(0,s1)):jH f (l.drop (k+1)) s1=res:=by
 rw[<-h,List.drop_eq_getElem_cons a]
 conv=>rhs;unfold jH
 rw[h1];simp only[ne_eq,not_true_eq_false,if_false]
theorem WE(h:jH f (l.drop l.length) s=res):res=(0,s):=by
 rw[<-h,List.drop_length];rfl
end
end Go.Proofs.YtheabjeppmdmiaaGreatDoor
