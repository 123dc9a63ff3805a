/- Lemmas. -/
import Derived.Test.YthcgdgkpgdjahaaGreatDoorMbb
import Derived.Maps.OwnOps
import Derived.Maps.OwnSet
namespace Go.Proofs.YthcgdgkpgdjahaaGreatDoor
open Go.RowKit
set_option linter.unusedVariables false
set_option linter.unusedSimpArgs false
set_option maxHeartbeats 16000000
open _root_.Go.Proofs.Tryz
set_option maxRecDepth 20000
theorem Ux{p:Prop}(h:p:=by
 go_wp2;go_returns;exact⟨by rw[HV.o];rfl,HB.o⟩):p:=h
theorem Ln{l r:List Bool}{n:No}(h:lI l n=some r):r.length<=l.length+1:=by
 unfold lI at h
 cases hw:mX n.op with
 |none=>rw[hw] at h;cases h
 |some m=>
  rw[hw] at h;simp only at h;by_cases a:rE n=true/\m.length<=l.length/\l.drop (l.length - m.length)=m
  .rw[iP a] at h;injection h with h;rw[<-h,aL,List.length_take,List.length_singleton];omega
  .rw[iN a] at h;cases h
theorem Lo{l:List No}{lm:List Bool}{res:Option (List Bool)}(h:iO (l.drop l.length) lm=res):res=some lm:=by
 rw[<-h,List.drop_length];rfl
theorem Fq{l:List No}{k:Nat}{lm:List Bool}{res:Option (List Bool)}(a:k<l.length)(h:iO (l.drop k) lm=res)(h1:lI lm l[k]=none):res=none:=by
 rw[<-h,List.drop_eq_getElem_cons a];simp only[iO,h1]
theorem Fs{l:List No}{k:Nat}{lm r:List Bool}{res:Option (List Bool)}(a:k<l.length)(h:iO (l.drop k) lm=res)(h1:lI lm l[k]=some r):iO (l.drop (k+1)) r=res:=by
 rw[<-h,List.drop_eq_getElem_cons a];simp only[iO,h1]
def FU(n:Nat):Option (List Bool)->Int
 |none=>1
 |some made=>if 0<n/\made≠[false] then 1 else 0
theorem Ft(l:List No):lJ l=if 32<l.length then 6 else FU l.length (iO l []):=by
 unfold lJ FU
 cases iO l []<;>rfl
theorem IL{ok:nP}(v:Value)(l:List No)(w:World)(h:aH KJ w ok v l):Calls prog 225 #[v] w (aP (.int .i64 (lJ l)) w):=by
 obtain⟨a,c,rfl,T⟩:=h.slice;have M:=aA h;clear h;unfold aP;rw[Ft];by_cases h0:32<l.length
 .rw[iP h0];have d:decide ((l.length:Int) > 32)=true:=dX qo;clear h0;go_enter func225,ntmps225;exact GY
 rw[iN h0];have d:decide ((l.length:Int) > 32)=false:=dF qo;have S:l.length<=32:=qo;clear h0;obtain⟨res,z⟩:=xE (iO l []);rw[<-z];have B:Hid (iO (l.drop 0) []=res):=aA (by rw[List.drop_zero];exact z.symm);clear z;go_enter func225,ntmps225;go_wp2;go_loopw [3,12] (fun vm i wr=>∃(k:Nat) (lm:List Bool),k<=l.length/\lm.length<=k/\i=.int .i64 k/\Hid (iO (l.drop k) lm=res)/\Hid (aM DS 1 4 wr w.heap.size (fun _=>True) vm lm)/\Hid (Below w.heap.size w wr)) (fun vm i _=>l.length - (intOf i).toNat)
 case atStart=>exact⟨0,[],Nat.zero_le _,Nat.zero_le _,rfl,B,aA aM.nil,aA (Below.refl _ _)⟩
 case round=>
  clear B;obtain⟨k,lm,R,U,rfl,g,p,HB⟩:=hrel;by_cases y:k<l.length
  .have P:(k:Int)<(l.length:Int):=qo;obtain⟨b,off,r,rfl,_,O,⟨rfl,D⟩,m⟩:=aH.at dQ (M.o.on dQ HB.o) y qe;obtain⟨o,E,F,G,H,I,J⟩:=CW m;rw[Nat.add_zero] at o;have s:=aA (fun h1=>Fq y g.o h1);have t:=aA (fun r h1=>Fs (r:=r) y g.o h1);have f:=aA (JX _ lm l[k] D w.heap.size _ (p.o.on jX (aB wr (.cells #[.int .i64 l[k].op,.int .i64 l[k].val.1,.int .i64 l[k].val.2.1,.string l[k].val.2.2,.int .i64 l[k].aEe.cat,.string l[k].aEe.name,.bool l[k].aEe.aEm] 292))) qo (by rw[World.size_alloc];exact lT HB.o.size (Nat.le_succ _)));unfold JW jS at f;clear m g D;generalize l[k]=n at *
   cases he:lI lm n with
   |none=>
    have HE:=aA (s.o he);rw[he] at f;simp only[Option.isSome_none,Option.getD_none] at f;clear s t he;go_wp2_with fail;refine f.o.mono ?_;rintro e w2 ⟨v2,rfl,j,q⟩;have HB2:=aA ((HB.o.alloc HB.o.size (.cells (iS n) 292)).trans j);clear j q f o E F G H I J;exact GZ
   |some r=>
    have L:=aA (t.o r he);have V:=Ln he;rw[he] at f;simp only[Option.isSome_some,Option.getD_some] at f;clear s t he;go_wp2_with fail;refine f.o.mono ?_;rintro e w2 ⟨v2,rfl,j,q⟩;have HB2:=aA ((HB.o.alloc HB.o.size (.cells (iS n) 292)).trans j);have K:=aA q;clear j q f o E F G H I J;go_wp2;go_roundw
    case rel=>exact⟨k+1,r,qo,qo,by go_num,L,K,HB2⟩
    case measure=>simp[intOf];omega
  .have P:¬(k:Int)<(l.length:Int):=qo;obtain rfl:k=l.length:=qo;obtain rfl:=Lo g.o;clear g;obtain⟨W,vc,rfl⟩:=p.o.slice;have C:=aA (p.o.sl qo (fun _=>True) (fun _ _ _=>trivial) (fun _ _ _=>trivial) jX);by_cases A:0<l.length
   .have Q:(0:Int)<(l.length:Int):=qo;by_cases h1:lm.length=1
    .obtain⟨x,rfl⟩:∃x,lm=[x]:=List.length_eq_one_iff.1 h1;obtain⟨b,off,r,rfl,_,O,⟨rfl,_⟩,m⟩:=aH.at jX (k:=0) C.o (Nat.lt_succ_self _) qe;have o:=m 0 _ rfl;simp only[Nat.zero_mul,Nat.add_zero,List.getElem_cons_zero] at o;clear m;have N:(([x]:List Bool).length)=1:=rfl;rw[N] at p C ⊢
     cases x
     .have HV:Hid (FU l.length (some [false])=0):=aA (iN qs);exact Ux
     .have HV:Hid (FU l.length (some [true])=1):=aA (iP ⟨A,qs⟩);exact Ux
    .have HV:Hid (FU l.length (some lm)=1):=aA (iP ⟨A,fun h=>h1 (by rw[h];rfl)⟩);have h2:¬(lm.length:Int)=1:=qo;have h3:((lm.length:Int) != 1)=true:=bne_iff_ne.2 h2;exact Ux
   .have Q:¬(0:Int)<(l.length:Int):=qo;have HV:Hid (FU l.length (some lm)=0):=aA (iN (fun h=>A h.1));exact Ux
section
open Go.Maps
theorem OI{w w':World}(h:Below w.heap.size w w')(row:Option Nat):w.grownBy w' row:=⟨h.os,h.tape,h.output,h.size,fun k a _=>h.block k a⟩
theorem Fu{s t:bY}(h:s.data.toList=t.data.toList):s=t:=ByteArray.ext (Array.ext' h)
theorem wV:Keyed prog 9:=string_keyed underlying9
theorem EF(w:World):(zeroValue 343).run prog w=.ok (.agg #[]) w:=by kernel_rfl
def NW(w:World)(mb g:Nat)(s:WS):Prop:=
 w.heap[g]? =some (.cells #[.map (some mb),.int .i64 (s.aDR:Nat)] 225 (0,0))/\mb≠g/\∃D:DataW Unit,w.ownsMap prog 9 unitElem mb s.met.length D/\∀t:bY,Maps.has D (.string t.data.toList)=s.met.any (fun u=>decide (u=t))
theorem NW.lt{w:World}{mb g:Nat}{s:WS}(h:NW w mb g s):g<w.heap.size:=(Array.getElem?_eq_some_iff.1 h.1).1
theorem NW.ltm{w:World}{mb g:Nat}{s:WS}(h:NW w mb g s):mb<w.heap.size:=by
 obtain⟨_,_,D,h1,_⟩:=h;exact h1.lt
theorem NW.on{w w':World}{mb g:Nat}{s:WS}(h:NW w mb g s)(a:Below w.heap.size w w'):NW w' mb g s:=by
 have b:=h.lt;obtain⟨h1,h2,D,h3,h4⟩:=h;exact⟨(a.block g b).trans h1,h2,D,h3.kept (OI a none) qs,h4⟩
theorem Xi{l:List ByteArray}{s t:bY}{D:DataW Unit}(h:∀t:bY,Maps.has D (.string t.data.toList)=l.any (fun u=>decide (u=t)))(b:Tidy D):Maps.has (D.put (.string s.data.toList) (.agg [])) (.string t.data.toList)=(s::l).any (fun u=>decide (u=t)):=by
 rw[List.any_cons];by_cases a:s=t
 .subst a;rw[has_put_same (k:= .string s.data.toList) b.isMap True.intro];simp
 .rw[has_put_other (by intro e;injection e with e;exact a (Fu e.symm)),h t,dF a,Bool.false_or]
def oS(w:World)(mb g:Nat)(s:WS)(v:Value)(e:Ending)(w':World):Prop:=e=.returned v/\NW w' mb g s/\aN (fun b=>b≠g/\b≠mb) w w'
theorem AQ(n:bY)(d:n.size<=cQ)(mb g:Nat)(s:WS)(hm:s.met.length<=1000000)(w:World)(h:NW w mb g s):Calls prog 222 #[.pointer (some ⟨g,0,none⟩),.string n] w (oS w mb g (gU n s).2 (.bool (gU n s).1)):=by
 have p:=h.lt;have F:=h.ltm;have H:=aA h;obtain⟨h1,h2,D,h3,h4⟩:=h;obtain⟨⟨c0,c1⟩,f0,f1⟩:=fL h1;have f:=aA (fun w=>oZ n (by unfold cQ at d;unfold maxLen;omega) w);have i:keyOf prog 9 (.string n)=some (.string n.data.toList):=WideMaps.keyOf_string_mk underlying9 (by unfold cQ at d;unfold maxLen;omega);obtain⟨c,j,a⟩:=aZ (h4 n) h3 (aB w (.cells #[] 343));unfold oS gU;by_cases b:s.met.any (fun t=>decide (t=n))=true
 .rw[iP (.inl b)];have A:Maps.has D (.string n.data.toList)=true:=by rw[c.o];exact b
  clear h1 h3 h4 b c d hm;go_enter func222,ntmps222;go_wp2_with (at_lookup;refine wpList_lookup_own_unit _ rfl _ _ 223 rfl 9 343 wV underlying223 (EF _) mb s.met.length D rfl j.o _ (.string n.data.toList) rfl i ?_)
  go_returns;exact⟨rfl,H.o.on a.o,aJ a.o⟩
 have A:Maps.has D (.string n.data.toList)=false:=by rw[c.o];exact eq_false_of_ne_true b
 cases l:eT n
 .rw[iP (.inr rfl)];rw[l] at f;clear h1 h3 h4 b c d hm;go_enter func222,ntmps222;go_wp2_with (first
   |(at_lookup;refine wpList_lookup_own_unit _ rfl _ _ 223 rfl 9 343 wV underlying223 (EF _) mb s.met.length D rfl j.o _ (.string n.data.toList) rfl i ?_)
   |(go_at_call 56;refine(f.o _).mono ?_;rintro e w2 ⟨rfl,rfl⟩))
  go_returns;exact⟨rfl,H.o.on a.o,aJ a.o⟩
 rw[iN (fun h=>h.elim (fun h=>b h) (fun h=>by cases h))];rw[l] at f;obtain⟨B,x,y⟩:=aZ (h3.tidy wV) h4 hm;obtain⟨w0,G⟩:=xE (w.alloc (.cells #[] 343));obtain⟨v,r,I⟩:=aZ (h3.alloc (.cells #[] 343)) (aE h1 a.o) (⟨p,F⟩:g<w.heap.size/\mb<w.heap.size);clear h1 h3 h4 b c d hm l G w0;go_enter func222,ntmps222;go_wp2_with (first
  |(at_lookup;refine wpList_lookup_own_unit _ rfl _ _ 223 rfl 9 343 wV underlying223 (EF _) mb s.met.length D rfl j.o _ (.string n.data.toList) rfl i ?_)
  |(go_at_call 56;refine(f.o _).mono ?_;rintro e w2 ⟨rfl,rfl⟩)
  |(at_mapUpdate;refine wpList_mapUpdate_own _ rfl _ _ _ 223 rfl 9 343 wV underlying223 (unitElem (H:=Unit)) mb s.met.length D rfl v.o (by have:=y.o;unfold maxLen;omega) _ _ _ rfl rfl i _ [] unitElem_mk ?_;intro J q o;have z:=aA q;have m:=aA o;clear q o))
 go_returns;have C:=(m.o.block g (lL p a.o.size) (fun e=>h2 (by injection e with e;exact e.symm))).trans r.o;refine⟨rfl,⟨C,h2,_,z.o,fun t=>Xi x.o B.o⟩,?_⟩;exact(aJ a.o).trans ((cX m.o).mono fun k _ E=>fun e=>E.2 (by injection e))
end
theorem yF(n:bY)(s:WS):(gU n s).2.aDR=s.aDR:=by
 unfold gU;by_cases h:s.met.any (fun t=>decide (t=n))=true\/eT n=false
 .rw[iP h]
 .rw[iN h]
theorem QQ(n:bY)(s:WS):(gU n s).2.met.length<=s.met.length+1:=by
 unfold gU;by_cases h:s.met.any (fun t=>decide (t=n))=true\/eT n=false
 .rw[iP h];exact Nat.le_succ _
 .rw[iN h];exact lR _
theorem Lp{r:Ru}{s s1:WS}(h:gU r.id s=(false,s1)):fT r s=(1,s1):=by
 unfold fT;rw[h];rfl
theorem Fv{r:Ru}{s s1:WS}(h:gU r.id s=(true,s1))(h1:64<s1.aDR+1):fT r s=(6,{s1 with aDR:=s1.aDR+1}):=by
 unfold fT;rw[h];simp only[Bool.true_eq_false,if_false,iP h1]
theorem WN{r:Ru}{s s1:WS}(h:gU r.id s=(true,s1))(h1:¬64<s1.aDR+1)(h2:fC r.aDY≠0):fT r s=(fC r.aDY,{s1 with aDR:=s1.aDR+1}):=by
 unfold fT;rw[h];simp only[Bool.true_eq_false,if_false,iN h1,iP h2]
theorem Fw{r:Ru}{s s1:WS}(h:gU r.id s=(true,s1))(h1:¬64<s1.aDR+1)(h2:fC r.aDY=0)(h3:lJ r.cond≠0):fT r s=(lJ r.cond,{s1 with aDR:=s1.aDR+1}):=by
 unfold fT;rw[h];simp only[Bool.true_eq_false,if_false,iN h1,h2,ne_eq,not_true_eq_false,iP h3]
theorem Fx{r:Ru}{s s1:WS}(h:gU r.id s=(true,s1))(h1:¬64<s1.aDR+1)(h2:fC r.aDY=0)(h3:lJ r.cond=0):fT r s=(lK r.aD4,{s1 with aDR:=s1.aDR+1}):=by
 unfold fT;rw[h];simp only[Bool.true_eq_false,if_false,iN h1,h2,h3,ne_eq,not_true_eq_false]
theorem NW.more{w:World}{mb g q:Nat}{s:WS}(h:NW w mb g s)(b:q=s.aDR+1):NW (w.setCell ⟨g,1,none⟩ (.int .i64 (q:Nat))) mb g {s with aDR:=s.aDR+1}:=by
 obtain⟨h1,h2,D,h3,h4⟩:=h;subst b;refine⟨aG h1 1 _,h2,D,?_,h4⟩;exact h3.kept (row:=some g) ⟨rfl,rfl,rfl,by simp[World.setCell],fun k c a=>Below.heap_setCell _ _ _ _ (fun e=>a (by rw[e]))⟩ (fun e=>h2 (by injection e))
theorem iG{w:World}{g mb i:Nat}(v:Value):aN (fun b=>b≠g/\b≠mb) w (w.setCell ⟨g,i,none⟩ v):=(aI v).mono fun k _ h=>h.1
theorem Lq{ok:nP}(r:Ru)(vt vc vo:Value)(mb g:Nat)(s:WS)(hm:s.met.length<=1000000)(hr:s.aDR<=1000000)(w:World)(h:NW w mb g s)(hp:sC w ok r vt vc vo)(ho:∀b,ok b->b≠g/\b≠mb):Calls prog 185 #[.pointer (some ⟨g,0,none⟩),.agg #[.string r.id,.bool r.aEp,vt,vc,vo]] w (oS w mb g (fT r s).2 (.int .i64 (fT r s).1)):=by
 have ai:=h.lt;have aj:=h.ltm;obtain⟨Y,Z,rfl,_⟩:=hp.2.1.slice;obtain⟨T,U,rfl,_⟩:=hp.2.2.1.slice;obtain⟨W,X,rfl,_⟩:=hp.2.2.2.slice;obtain⟨n,p,t,v,D⟩:=gJ (AQ r.id hp.1 mb g s hm _ (h.on (aB w (.cells #[.string r.id,.bool r.aEp,.slice Y r.aDY.length Z,.slice T r.cond.length U,.slice W r.aD4.length X] 269)))) (aK w (.cells #[.string r.id,.bool r.aEp,.slice Y r.aDY.length Z,.slice T r.cond.length U,.slice W r.aD4.length X] 269) _ rfl) (aB w (.cells #[.string r.id,.bool r.aEp,.slice Y r.aDY.length Z,.slice T r.cond.length U,.slice W r.aD4.length X] 269)) hp ho;have ad:=yF r.id s;unfold oS;unfold oS at n;obtain⟨ah,s1,o⟩:∃a b,gU r.id s=(a,b):=⟨_,_,rfl⟩;rw[o] at n ad;simp only at n ad;clear h hp ho
 cases ah
 .rw[Lp o];simp only;clear o;go_enter func185,ntmps185;go_wp2_with fail;refine n.o.mono ?_;rintro e w1 ⟨rfl,f,j⟩;have k:=qS p j ⟨qo,qo⟩;have m:=aA ((aJ t.o).trans j);have F:=aA (v.o.aDW (m.o.mono fun b _ l=>D.o b l));obtain⟨⟨y,z,A,B,C⟩,_⟩:=dM k.o;have x:=aD k.o;have V:=f.lt;have E:=aA f;obtain⟨⟨c0,c1⟩,f0,f1⟩:=fL f.1;clear f j n v p t;go_wp2;go_returns;exact⟨rfl,E.o,m.o⟩
 obtain⟨q,hq⟩:=xE (s1.aDR+1);have e1:IntKind.i64.wrap ((s1.aDR:Int)+1)=(q:Int):=by rw[IntWalk.i64_in _ qo];omega
 have H:=aA hq;clear hq ad;by_cases h64:64<q
 .rw[Fv o (qA H.o)];simp only;clear o;have d:decide ((q:Int) > 64)=true:=dX qo;go_enter func185,ntmps185;go_wp2_with fail;refine n.o.mono ?_;rintro e w1 ⟨rfl,f,j⟩;have k:=qS p j ⟨qo,qo⟩;have m:=aA ((aJ t.o).trans j);have F:=aA (v.o.aDW (m.o.mono fun b _ l=>D.o b l));obtain⟨⟨y,z,A,B,C⟩,_⟩:=dM k.o;have x:=aD k.o;have V:=f.lt;have E:=aA f;obtain⟨⟨c0,c1⟩,f0,f1⟩:=fL f.1;clear f j n v p t;have L:=aA (E.o.more H.o);have K:=aA (m.o.trans (iG (g:=g) (mb:=mb) (i:=1) (.int .i64 (q:Nat))));have G:=aA (F.o.aDW ((iG (g:=g) (mb:=mb) (i:=1) (.int .i64 (q:Nat))).mono fun b _ l=>D.o b l));have P:=qS k (iG (g:=g) (mb:=mb) (i:=1) (.int .i64 (q:Nat))) ⟨qo,qo⟩;go_wp2;go_returns;exact⟨rfl,L.o,K.o⟩
 have d:decide ((q:Int) > 64)=false:=dF qo;have I:=aA (fun w h=>LS (ok:=ok) (.slice Y r.aDY.length Z) r.aDY w h);unfold aP at I;by_cases J:fC r.aDY=0
 case neg=>
  rw[WN o (qA H.o) J];simp only;clear o;have d2:(fC r.aDY != 0)=true:=bne_iff_ne.2 J;clear J;generalize fC r.aDY=te at *;go_enter func185,ntmps185;go_wp2_with fail;refine n.o.mono ?_;rintro e w1 ⟨rfl,f,j⟩;have k:=qS p j ⟨qo,qo⟩;have m:=aA ((aJ t.o).trans j);have F:=aA (v.o.aDW (m.o.mono fun b _ l=>D.o b l));obtain⟨⟨y,z,A,B,C⟩,_⟩:=dM k.o;have x:=aD k.o;have V:=f.lt;have E:=aA f;obtain⟨⟨c0,c1⟩,f0,f1⟩:=fL f.1;clear f j n v p t;have L:=aA (E.o.more H.o);have K:=aA (m.o.trans (iG (g:=g) (mb:=mb) (i:=1) (.int .i64 (q:Nat))));have G:=aA (F.o.aDW ((iG (g:=g) (mb:=mb) (i:=1) (.int .i64 (q:Nat))).mono fun b _ l=>D.o b l));have P:=qS k (iG (g:=g) (mb:=mb) (i:=1) (.int .i64 (q:Nat))) ⟨qo,qo⟩;go_wp2_with fail;refine(I.o _ G.o.2.1).mono ?_;rintro e w3 ⟨rfl,c⟩;have R:=aA (L.o.on c);have Q:=aA (K.o.trans (aJ c));clear c I;go_wp2;go_returns;exact⟨rfl,R.o,Q.o⟩
 have N:=aA (fun w h=>IL (ok:=ok) (.slice T r.cond.length U) r.cond w h);unfold aP at N;rw[J] at I;by_cases O:lJ r.cond=0
 case neg=>
  rw[Fw o (qA H.o) J O];simp only;clear o;have d2:(lJ r.cond != 0)=true:=bne_iff_ne.2 O;clear J O;generalize lJ r.cond=te at *;go_enter func185,ntmps185;go_wp2_with fail;refine n.o.mono ?_;rintro e w1 ⟨rfl,f,j⟩;have k:=qS p j ⟨qo,qo⟩;have m:=aA ((aJ t.o).trans j);have F:=aA (v.o.aDW (m.o.mono fun b _ l=>D.o b l));obtain⟨⟨y,z,A,B,C⟩,_⟩:=dM k.o;have x:=aD k.o;have V:=f.lt;have E:=aA f;obtain⟨⟨c0,c1⟩,f0,f1⟩:=fL f.1;clear f j n v p t;have L:=aA (E.o.more H.o);have K:=aA (m.o.trans (iG (g:=g) (mb:=mb) (i:=1) (.int .i64 (q:Nat))));have G:=aA (F.o.aDW ((iG (g:=g) (mb:=mb) (i:=1) (.int .i64 (q:Nat))).mono fun b _ l=>D.o b l));have P:=qS k (iG (g:=g) (mb:=mb) (i:=1) (.int .i64 (q:Nat))) ⟨qo,qo⟩;go_wp2_with fail;refine(I.o _ G.o.2.1).mono ?_;rintro e w3 ⟨rfl,c⟩;obtain⟨R,Q,S,M⟩:=dH (L.o.on c) (K.o.trans (aJ c)) (G.o.aDW (aJ c)) (aE P.o c);clear y z A B C x c I;obtain⟨⟨y,z,A,B,C⟩,_⟩:=dM M.o;have x:=aD M.o;go_wp2_with fail;refine(N.o _ S.o.2.2.1).mono ?_;rintro e w4 ⟨rfl,c⟩;have ab:=aA (R.o.on c);have aa:=aA (Q.o.trans (aJ c));clear c N;go_wp2;go_returns;exact⟨rfl,ab.o,aa.o⟩
 rw[O] at N;have HL:=aA (fun w h=>WK (ok:=ok) (.slice W r.aD4.length X) r.aD4 w h);unfold aP at HL;rw[Fx o (qA H.o) J O];simp only;clear o J O;generalize lK r.aD4=oe at *;go_enter func185,ntmps185;go_wp2_with fail;refine n.o.mono ?_;rintro e w1 ⟨rfl,f,j⟩;have k:=qS p j ⟨qo,qo⟩;have m:=aA ((aJ t.o).trans j);have F:=aA (v.o.aDW (m.o.mono fun b _ l=>D.o b l));obtain⟨⟨y,z,A,B,C⟩,_⟩:=dM k.o;have x:=aD k.o;have V:=f.lt;have E:=aA f;obtain⟨⟨c0,c1⟩,f0,f1⟩:=fL f.1;clear f j n v p t;have L:=aA (E.o.more H.o);have K:=aA (m.o.trans (iG (g:=g) (mb:=mb) (i:=1) (.int .i64 (q:Nat))));have G:=aA (F.o.aDW ((iG (g:=g) (mb:=mb) (i:=1) (.int .i64 (q:Nat))).mono fun b _ l=>D.o b l));have P:=qS k (iG (g:=g) (mb:=mb) (i:=1) (.int .i64 (q:Nat))) ⟨qo,qo⟩;go_wp2_with fail;refine(I.o _ G.o.2.1).mono ?_;rintro e w3 ⟨rfl,c⟩;obtain⟨R,Q,S,M⟩:=dH (L.o.on c) (K.o.trans (aJ c)) (G.o.aDW (aJ c)) (aE P.o c);clear y z A B C x c I;obtain⟨⟨y,z,A,B,C⟩,_⟩:=dM M.o;have x:=aD M.o;go_wp2_with fail;refine(N.o _ S.o.2.2.1).mono ?_;rintro e w4 ⟨rfl,c⟩;obtain⟨ab,aa,af,B4⟩:=dH (R.o.on c) (Q.o.trans (aJ c)) (S.o.aDW (aJ c)) (aE M.o c);clear y z A B C x c N;obtain⟨⟨y,z,A,B,C⟩,_⟩:=dM B4.o;have x:=aD B4.o;go_wp2_with fail;refine(HL.o _ af.o.2.2.2).mono ?_;rintro e w5 ⟨rfl,c⟩;have ag:=aA (ab.o.on c);have ae:=aA (aa.o.trans (aJ c));clear c HL;go_wp2;go_returns;exact⟨rfl,ag.o,ae.o⟩
theorem QAJ{p:Prop}(h:p:=by
 rw[WO hnw hc1 hc2 ht];simp only;rw[hset] at HN B0 HB0;clear hnw hc1 hc2 h1 h2;have d9:(fC p.aDY != 0)=true:=bne_iff_ne.2 ht;clear ht;generalize fC p.aDY=te at *;go_enter func184,ntmps184;go_wp2_with fail;refine HN.o.mono ?_;rintro e w1 ⟨rfl,hn_,k_⟩;have B1:=qS B0 k_ ⟨qo,qo⟩;have HK:=aA ((aJ HB0.o).trans k_);have HP1:=aA (HP.o.aDW (HK.o.mono fun b _ hb=>HO.o b hb));obtain⟨⟨x0,x1,x2,x3,x4,x5,x6⟩,_⟩:=bI B1.o;have hz:=aD B1.o;have HW1:=aA hn_;clear hn_ k_ HN HP B0 HB0;go_wp2_with fail;refine(HT.o _ HP1.o.2.2.1).mono ?_;rintro e w2 ⟨rfl,hb_⟩;have HW2:=aA (HW1.o.on hb_);have HK2:=aA (HK.o.trans (aJ hb_));clear hb_ HT;go_wp2;go_returns;exact⟨rfl,HW2.o,HK2.o⟩):p:=h
theorem QAA{p:Prop}(h:p:=by
 rw[Fy hnw hc1 hc2 ht hl];simp only;rw[hset] at HN B0 HB0;clear hnw hc1 hc2 h1 h2 ht;have d9:(lK p.aD4 != 0)=true:=bne_iff_ne.2 hl;clear hl;generalize lK p.aD4=te at *;go_enter func184,ntmps184;go_wp2_with fail;refine HN.o.mono ?_;rintro e w1 ⟨rfl,hn_,k_⟩;have B1:=qS B0 k_ ⟨qo,qo⟩;have HK:=aA ((aJ HB0.o).trans k_);have HP1:=aA (HP.o.aDW (HK.o.mono fun b _ hb=>HO.o b hb));obtain⟨⟨x0,x1,x2,x3,x4,x5,x6⟩,_⟩:=bI B1.o;have hz:=aD B1.o;have HW1:=aA hn_;clear hn_ k_ HN HP B0 HB0;go_wp2_with fail;refine(HT.o _ HP1.o.2.2.1).mono ?_;rintro e w2 ⟨rfl,hb_⟩;have HW2:=aA (HW1.o.on hb_);have HK2:=aA (HK.o.trans (aJ hb_));have HP2:=aA (HP1.o.aDW (aJ hb_));have B2:=qK B1 hb_;clear x0 x1 x2 x3 x4 x5 x6 hz hb_ HT;obtain⟨⟨x0,x1,x2,x3,x4,x5,x6⟩,_⟩:=bI B2.o;have hz:=aD B2.o;go_wp2_with fail;refine(HL.o _ HP2.o.2.2.2.2.2).mono ?_;rintro e w3 ⟨rfl,hb_⟩;have HW3:=aA (HW2.o.on hb_);have HK3:=aA (HK2.o.trans (aJ hb_));clear hb_ HL;go_wp2;go_returns;exact⟨rfl,HW3.o,HK3.o⟩):p:=h
theorem Bw{p:Prop}(h:p:=by
 go_enter func184,ntmps184;go_wp2_with fail;refine HN.o.mono ?_;rintro e w1 ⟨rfl,hn_,k_⟩;have B1:=qS B0 k_ ⟨qo,qo⟩;have HK:=aA ((aJ HB0.o).trans k_);have HP1:=aA (HP.o.aDW (HK.o.mono fun b _ hb=>HO.o b hb));obtain⟨⟨x0,x1,x2,x3,x4,x5,x6⟩,_⟩:=bI B1.o;have hz:=aD B1.o;have HW1:=aA hn_;clear hn_ k_ HN HP B0 HB0;go_wp2;go_returns;exact⟨rfl,HW1.o,HK.o⟩):p:=h
theorem Uy{p:Prop}(h:p:=by
 go_enter func184,ntmps184;go_wp2_with fail;refine HN.o.mono ?_;rintro e w1 ⟨rfl,hn_,k_⟩;have B1:=qS B0 k_ ⟨qo,qo⟩;have HK:=aA ((aJ HB0.o).trans k_);have HP1:=aA (HP.o.aDW (HK.o.mono fun b _ hb=>HO.o b hb));obtain⟨⟨x0,x1,x2,x3,x4,x5,x6⟩,_⟩:=bI B1.o;have hz:=aD B1.o;have HW1:=aA hn_;clear hn_ k_ HN HP B0 HB0;go_wp2_with fail;refine(HT.o _ HP1.o.2.2.1).mono ?_;rintro e w2 ⟨rfl,hb_⟩;have HW2:=aA (HW1.o.on hb_);have HK2:=aA (HK.o.trans (aJ hb_));have HP2:=aA (HP1.o.aDW (aJ hb_));have B2:=qK B1 hb_;clear x0 x1 x2 x3 x4 x5 x6 hz hb_ HT;obtain⟨⟨x0,x1,x2,x3,x4,x5,x6⟩,_⟩:=bI B2.o;have hz:=aD B2.o;go_wp2_with fail;refine(HL.o _ HP2.o.2.2.2.2.2).mono ?_;rintro e w3 ⟨rfl,hb_⟩;have HW3:=aA (HW2.o.on hb_);have HK3:=aA (HK2.o.trans (aJ hb_));have HP3:=aA (HP2.o.aDW (aJ hb_));have B3:=qK B2 hb_;clear x0 x1 x2 x3 x4 x5 x6 hz hb_ HL;obtain⟨⟨x0,x1,x2,x3,x4,x5,x6⟩,_⟩:=bI B3.o;have hz:=aD B3.o;go_wp2;go_returns;exact⟨rfl,HW3.o,HK3.o⟩):p:=h
theorem EG{p:Po}{s s1:WS}{a:Bool}(h:gU p.id s=(a,s1))(h1:a=false\/p.alg<1\/6<p.alg):fJ p s=(1,s1):=by
 unfold fJ;rw[h];exact iP h1
theorem BF{p:Po}{s s1:WS}{a:Bool}(h:gU p.id s=(a,s1))(h1:¬(a=false\/p.alg<1\/6<p.alg))(h2:(p.set=true/\p.aDR≠[])\/(p.set=false/\(0<p.aD2.length\/p.alg=4))):fJ p s=(1,s1):=by
 unfold fJ;rw[h];simp only[iN h1,iP h2]
theorem WO{p:Po}{s s1:WS}{a:Bool}(h:gU p.id s=(a,s1))(h1:¬(a=false\/p.alg<1\/6<p.alg))(h2:¬((p.set=true/\p.aDR≠[])\/(p.set=false/\(0<p.aD2.length\/p.alg=4))))(h3:fC p.aDY≠0):fJ p s=(fC p.aDY,s1):=by
 unfold fJ;rw[h];simp only[iN h1,iN h2,iP h3]
theorem Fy{p:Po}{s s1:WS}{a:Bool}(h:gU p.id s=(a,s1))(h1:¬(a=false\/p.alg<1\/6<p.alg))(h2:¬((p.set=true/\p.aDR≠[])\/(p.set=false/\(0<p.aD2.length\/p.alg=4))))(h3:fC p.aDY=0)(h4:lK p.aD4≠0):fJ p s=(lK p.aD4,s1):=by
 unfold fJ;rw[h];simp only[iN h1,iN h2,h3,ne_eq,not_true_eq_false,if_false,iP h4]
theorem QR{p:Po}{s s1:WS}{a:Bool}(h:gU p.id s=(a,s1))(h1:¬(a=false\/p.alg<1\/6<p.alg))(h2:¬((p.set=true/\p.aDR≠[])\/(p.set=false/\(0<p.aD2.length\/p.alg=4))))(h3:fC p.aDY=0)(h4:lK p.aD4=0):fJ p s=(if 16<p.aDR.length\/16<p.aD2.length then 6 else 0,s1):=by
 unfold fJ;rw[h];simp only[iN h1,iN h2,h3,h4,ne_eq,not_true_eq_false,if_false];by_cases h5:16<p.aDR.length\/16<p.aD2.length
 .rw[iP h5,iP h5]
 .rw[iN h5,iN h5]
theorem Rm{n:Nat}{ok:nP}(p:Po)(vt vr vk vo:Value)(mb g:Nat)(s:WS)(hm:s.met.length<=1000000)(w:World)(h:NW w mb g s)(hp:fO n w ok p vt vr vk vo)(q:∀b,ok b->b≠g/\b≠mb):Calls prog 184 #[.pointer (some ⟨g,0,none⟩),.agg #[.string p.id,.bool p.set,.int .i64 p.alg,vt,vr,vk,vo]] w (oS w mb g (fJ p s).2 (.int .i64 (fJ p s).1)):=by
 have x:=h.lt;have y:=h.ltm;obtain⟨i,j,rfl,_⟩:=hp.2.2.1.slice;obtain⟨ra,rc,rfl,v⟩:=hp.2.2.2.1.slice;obtain⟨l,m,rfl,t⟩:=hp.2.2.2.2.1.slice;obtain⟨d,f,rfl,_⟩:=hp.2.2.2.2.2.slice;obtain⟨HN,B0,HB0,HP,HO⟩:=gJ (AQ p.id hp.1 mb g s hm _ (h.on (aB w (.cells #[.string p.id,.bool p.set,.int .i64 p.alg,.slice i p.aDY.length j,.slice ra p.aDR.length rc,.slice l p.aD2.length m,.slice d p.aD4.length f] 60)))) (aK w (.cells #[.string p.id,.bool p.set,.int .i64 p.alg,.slice i p.aDY.length j,.slice ra p.aDR.length rc,.slice l p.aD2.length m,.slice d p.aD4.length f] 60) _ rfl) (aB w (.cells #[.string p.id,.bool p.set,.int .i64 p.alg,.slice i p.aDY.length j,.slice ra p.aDR.length rc,.slice l p.aD2.length m,.slice d p.aD4.length f] 60)) hp q;unfold oS;unfold oS at HN;obtain⟨r,s1,hnw⟩:∃a b,gU p.id s=(a,b):=⟨_,_,rfl⟩;rw[hnw] at HN;simp only at HN;clear h hp q
 cases r
 .rw[EG hnw (.inl rfl)];simp only;clear hnw;exact Bw
 by_cases h1:p.alg<1
 .rw[EG hnw (.inr (.inl h1))];simp only;have d1:decide (p.alg<1)=true:=dX h1;clear hnw h1;exact Bw
 have d1:decide (p.alg<1)=false:=dF h1;by_cases h2:6<p.alg
 .rw[EG hnw (.inr (.inr h2))];simp only;have d2:decide (p.alg > 6)=true:=dX h2;clear hnw h1 h2;exact Bw
 have d2:decide (p.alg > 6)=false:=dF h2;have hc1:¬(true=false\/p.alg<1\/6<p.alg):=by rintro (h|h|h);cases h;exact h1 h;exact h2 h
 have HT:=aA (fun w h=>LS (ok:=ok) (.slice i p.aDY.length j) p.aDY w h);unfold aP at HT;have HL:=aA (fun w h=>WK (ok:=ok) (.slice d p.aD4.length f) p.aD4 w h);unfold aP at HL
 cases hset:p.set
 .by_cases o:0<p.aD2.length
  .rw[BF hnw hc1 (.inr ⟨hset,.inl o⟩)];simp only;rw[hset] at HN B0 HB0;have d3:decide ((p.aD2.length:Int) > 0)=true:=dX qo;clear hnw h1 h2 hc1 HT HL;exact Bw
  have d3:decide ((p.aD2.length:Int) > 0)=false:=dF qo;by_cases h4:p.alg=4
  .rw[BF hnw hc1 (.inr ⟨hset,.inr h4⟩)];simp only;rw[hset] at HN B0 HB0;have d4:(p.alg==4)=true:=bQ.2 h4;clear hnw h1 h2 hc1 HT HL h4;exact Bw
  have d4:(p.alg==4)=false:=bN.2 h4;have hc2:¬((p.set=true/\p.aDR≠[])\/(p.set=false/\(0<p.aD2.length\/p.alg=4))):=by rintro (h|h);rw[hset] at h;cases h.1;exact h.2.elim o h4
  by_cases ht:fC p.aDY=0
  case neg=>
   exact QAJ
  rw[ht] at HT;by_cases hl:lK p.aD4=0
  case neg=>
   exact QAA
  rw[hl] at HL;rw[QR hnw hc1 hc2 ht hl];simp only;rw[hset] at HN B0 HB0;clear hnw hc1 hc2 h1 h2 ht hl;by_cases h16:16<p.aDR.length
  .rw[iP (.inl h16)];have d9:decide ((p.aDR.length:Int) > 16)=true:=dX qo;exact Uy
  have d9:decide ((p.aDR.length:Int) > 16)=false:=dF qo;by_cases c:16<p.aD2.length
  .exact absurd c qo
  have d10:decide ((p.aD2.length:Int) > 16)=false:=dF qo;rw[iN (fun h=>h.elim h16 c)];exact Uy
 .by_cases k:0<p.aDR.length
  .rw[BF hnw hc1 (.inl ⟨hset,fun e=>by rw[e] at k;exact absurd k qe⟩)];simp only;rw[hset] at HN B0 HB0;have d3:decide ((p.aDR.length:Int) > 0)=true:=dX qo;clear hnw h1 h2 hc1 HT HL;exact Bw
  have d3:decide ((p.aDR.length:Int) > 0)=false:=dF qo;have hc2:¬((p.set=true/\p.aDR≠[])\/(p.set=false/\(0<p.aD2.length\/p.alg=4))):=by rintro (h|h);exact k (List.length_pos_iff.2 h.2);rw[hset] at h;cases h.1
  by_cases ht:fC p.aDY=0
  case neg=>
   exact QAJ
  rw[ht] at HT;by_cases hl:lK p.aD4=0
  case neg=>
   exact QAA
  rw[hl] at HL;rw[QR hnw hc1 hc2 ht hl];simp only;rw[hset] at HN B0 HB0;clear hnw hc1 hc2 h1 h2 ht hl;by_cases h16:16<p.aDR.length
  .exact absurd h16 qo
  have d9:decide ((p.aDR.length:Int) > 16)=false:=dF qo;by_cases c:16<p.aD2.length
  .rw[iP (.inr c)];have d10:decide ((p.aD2.length:Int) > 16)=true:=dX qo;exact Uy
  have d10:decide ((p.aD2.length:Int) > 16)=false:=dF qo;rw[iN (fun h=>h.elim h16 c)];exact Uy
def pM(b:Nat)(s t:WS):Prop:=t.met.length<=s.met.length+b/\t.aDR<=s.aDR+b
theorem pM.trans{a b:Nat}{s t u:WS}(h:pM a s t)(k:pM b t u):pM (a+b) s u:=⟨qD h.1 k.1,qD h.2 k.2⟩
theorem pM.more{a b:Nat}{s t:WS}(h:pM a s t)(k:a<=b):pM b s t:=⟨qA h.1,qA h.2⟩
theorem pM.refl(b:Nat)(s:WS):pM b s s:=⟨qo,qo⟩
theorem Lr(n:bY)(s:WS):pM 1 s (gU n s).2:=⟨QQ n s,by rw[yF];omega⟩
theorem QS(r:Ru)(s:WS):pM 1 s (fT r s).2:=by
 have h:=QQ r.id s;have h2:=yF r.id s;unfold fT;generalize gU r.id s=q at *;obtain⟨a,s1⟩:=q;simp only at h h2 ⊢;unfold pM;split
 .exact⟨h,by simp only;omega⟩
 split
 .exact⟨h,by simp only;omega⟩
 split
 .exact⟨h,by simp only;omega⟩
 split
 .exact⟨h,by simp only;omega⟩
 .exact⟨h,by simp only;omega⟩
theorem QT(p:Po)(s:WS):pM 1 s (fJ p s).2:=by
 have h:=Lr p.id s;unfold fJ;generalize gU p.id s=q at *;obtain⟨a,s1⟩:=q;simp only at h ⊢
 repeat' split
 all_goals exact h
theorem vO{p:Po}{s:WS}(h:(fJ p s).1=0):p.aDR.length<=16/\p.aD2.length<=16:=by
 unfold fJ at h;generalize gU p.id s=q at *;obtain⟨b,s1⟩:=q;simp only at h;by_cases h1:b=false\/p.alg<1\/6<p.alg
 .rw[iP h1] at h;simp at h
 rw[iN h1] at h;by_cases h2:(p.set=true/\p.aDR≠[])\/(p.set=false/\(0<p.aD2.length\/p.alg=4))
 .rw[iP h2] at h;simp at h
 rw[iN h2] at h;by_cases h3:fC p.aDY=0
 case neg=>rw[iP h3] at h;exact absurd h h3
 rw[iN (fun a=>a h3)] at h;by_cases h4:lK p.aD4=0
 case neg=>rw[iP h4] at h;exact absurd h h4
 rw[iN (fun a=>a h4)] at h;by_cases h5:16<p.aDR.length\/16<p.aD2.length
 .rw[iP h5] at h;simp at h
 .omega
theorem JY{α:Type}{f:α->WS->Int×WS}{b:Nat}(c:∀x s,pM b s (f x s).2):∀(l:List α) (s:WS),pM (l.length * b) s (jJ f l s).2
 | [],s=>pM.refl _ s
 |x::l,s=>by
  have h1:=c x s;have h2:=JY c l (f x s).2;unfold jJ;generalize f x s=q at *;obtain⟨e,s1⟩:=q;simp only at h1 h2 ⊢;have a:(x::l).length * b=b+l.length * b:=by rw[List.length_cons,Nat.add_mul];omega
  by_cases he:e≠0
  .rw[iP he];exact h1.more (by rw[a];omega)
  .rw[iN he,a];exact h1.trans h2
def lG:Nat->Nat
 |0=>0
 |n+1=>17+16 * lG n
theorem EH{n:Nat}{p:Po}{s:WS}(h:(fJ p s).1≠0):eS (n+1) p s=fJ p s:=by
 unfold eS;generalize fJ p s=q at *;obtain⟨e,s1⟩:=q;exact iP h
theorem CC{n:Nat}{p:Po}{s s1:WS}(h:fJ p s=(0,s1))(h1:(jJ fT p.aDR s1).1≠0):eS (n+1) p s=jJ fT p.aDR s1:=by
 unfold eS;rw[h];simp only[ne_eq,not_true_eq_false,if_false];generalize jJ fT p.aDR s1=q at *;obtain⟨e,s2⟩:=q;exact iP h1
theorem EI{n:Nat}{p:Po}{s s1 s2:WS}(h:fJ p s=(0,s1))(h1:jJ fT p.aDR s1=(0,s2)):eS (n+1) p s=jJ (eS n) p.aD2 s2:=by
 unfold eS;rw[h];simp only[ne_eq,not_true_eq_false,if_false];rw[h1];simp only[not_true_eq_false,if_false]
theorem IM:∀(n:Nat) (p:Po) (s:WS),pM (lG n) s (eS n p s).2
 |0,p,s=>pM.refl _ s
 |n+1,p,s=>by
  have h1:=QT p s;have e:=vO (p:=p) (s:=s);by_cases a:(fJ p s).1=0
  case neg=>rw[EH a];exact h1.more (by unfold lG;omega)
  obtain⟨g,f⟩:=e a;obtain⟨s1,b⟩:∃s1,fJ p s=(0,s1):=⟨_,Prod.ext a rfl⟩;rw[b] at h1;have h2:=JY QS p.aDR s1;by_cases c:(jJ fT p.aDR s1).1=0
  case neg=>rw[CC b c];exact(h1.trans h2).more (by unfold lG;omega)
  obtain⟨s2,d⟩:∃s2,jJ fT p.aDR s1=(0,s2):=⟨_,Prod.ext c rfl⟩;rw[d] at h2;rw[EI b d];refine((h1.trans h2).trans (JY (IM n) p.aD2 s2)).more ?_;have:=Nat.mul_le_mul_right (lG n) f;show 1+p.aDR.length * 1+p.aD2.length * lG n<=17+16 * lG n;omega
section
variable {α:Type} {f:α->WS->Int×WS} {l:List α} {k:Nat} {s:WS} {res:Int×WS}
theorem QU(a:k<l.length)(h:jJ f (l.drop k) s=res)(h1:(f l[k] s).1≠0):res=f l[k] s:=by
 rw[<-h,List.drop_eq_getElem_cons a];unfold jJ;generalize f l[k] s=q at *;obtain⟨e,s1⟩:=q;exact iP h1
theorem Bx{s1:WS}(a:k<l.length)(h:jJ f (l.drop k) s=res)(h1:f l[k] s=(0,s1)):jJ f (l.drop (k+1)) s1=res:=by
 rw[<-h,List.drop_eq_getElem_cons a]
 conv=>rhs;unfold jJ
 rw[h1];simp only[ne_eq,not_true_eq_false,if_false]
theorem WQ(h:jJ f (l.drop l.length) s=res):res=(0,s):=by
 rw[<-h,List.drop_length];rfl
end
end Go.Proofs.YthcgdgkpgdjahaaGreatDoor
