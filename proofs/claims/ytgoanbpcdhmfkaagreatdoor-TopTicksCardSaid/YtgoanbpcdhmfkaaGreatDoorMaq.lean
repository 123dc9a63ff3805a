/- Lemmas. -/
import Derived.Test.YtgoanbpcdhmfkaaGreatDoorMap
import Derived.Maps.OwnOps
import Derived.Maps.OwnSet
namespace Go.Proofs.YtgoanbpcdhmfkaaGreatDoor
open Go.RowKit
set_option linter.unusedVariables false
set_option linter.unusedSimpArgs false
set_option maxHeartbeats 16000000
open _root_.Go.Proofs.Tryz
set_option maxRecDepth 20000
theorem Sn{p:Prop}(h:p:=by
 go_wp2;go_returns;exact⟨by rw[HV.o];rfl,HB.o⟩):p:=h
theorem Jc{l r:List Bool}{n:No}(h:lA l n=some r):r.length<=l.length+1:=by
 unfold lA at h
 cases hw:mO n.op with
 |none=>rw[hw] at h;cases h
 |some m=>
  rw[hw] at h;simp only at h;by_cases a:qP n=true/\m.length<=l.length/\l.drop (l.length - m.length)=m
  .rw[iP a] at h;injection h with h;rw[<-h,aL,List.length_take,List.length_singleton];omega
  .rw[iN a] at h;cases h
theorem Jd{l:List No}{lm:List Bool}{res:Option (List Bool)}(h:iK (l.drop l.length) lm=res):res=some lm:=by
 rw[<-h,List.drop_length];rfl
theorem Dn{l:List No}{k:Nat}{lm:List Bool}{res:Option (List Bool)}(a:k<l.length)(h:iK (l.drop k) lm=res)(h1:lA lm l[k]=none):res=none:=by
 rw[<-h,List.drop_eq_getElem_cons a];simp only[iK,h1]
theorem Dp{l:List No}{k:Nat}{lm r:List Bool}{res:Option (List Bool)}(a:k<l.length)(h:iK (l.drop k) lm=res)(h1:lA lm l[k]=some r):iK (l.drop (k+1)) r=res:=by
 rw[<-h,List.drop_eq_getElem_cons a];simp only[iK,h1]
def EW(n:Nat):Option (List Bool)->Int
 |none=>1
 |some made=>if 0<n/\made≠[false] then 1 else 0
theorem Dq(l:List No):lB l=if 32<l.length then 6 else EW l.length (iK l []):=by
 unfold lB EW
 cases iK l []<;>rfl
theorem GH{ok:nP}(v:Value)(l:List No)(w:World)(h:aH JG w ok v l):Calls prog 230 #[v] w (aP (.int .i64 (lB l)) w):=by
 obtain⟨a,c,rfl,T⟩:=h.slice;have M:=aA h;clear h;unfold aP;rw[Dq];by_cases h0:32<l.length
 .rw[iP h0];have d:decide ((l.length:Int) > 32)=true:=dX qo;clear h0;go_enter func230,ntmps230;exact FT
 rw[iN h0];have d:decide ((l.length:Int) > 32)=false:=dF qo;have S:l.length<=32:=qo;clear h0;obtain⟨res,z⟩:=xE (iK l []);rw[<-z];have B:Hid (iK (l.drop 0) []=res):=aA (by rw[List.drop_zero];exact z.symm);clear z;go_enter func230,ntmps230;go_wp2;go_loopw [3,12] (fun vm i wr=>∃(k:Nat) (lm:List Bool),k<=l.length/\lm.length<=k/\i=.int .i64 k/\Hid (iK (l.drop k) lm=res)/\Hid (aM DA 1 4 wr w.heap.size (fun _=>True) vm lm)/\Hid (Below w.heap.size w wr)) (fun vm i _=>l.length - (intOf i).toNat)
 case atStart=>exact⟨0,[],Nat.zero_le _,Nat.zero_le _,rfl,B,aA aM.nil,aA (Below.refl _ _)⟩
 case round=>
  clear B;obtain⟨k,lm,R,U,rfl,g,p,HB⟩:=hrel;by_cases y:k<l.length
  .have P:(k:Int)<(l.length:Int):=qo;obtain⟨b,off,r,rfl,_,O,⟨rfl,D⟩,m⟩:=aH.at dQ (M.o.on dQ HB.o) y qe;obtain⟨o,E,F,G,H,I,J⟩:=CD m;rw[Nat.add_zero] at o;have s:=aA (fun h1=>Dn y g.o h1);have t:=aA (fun r h1=>Dp (r:=r) y g.o h1);have f:=aA (IW _ lm l[k] D w.heap.size _ (p.o.on jO (aB wr (.cells #[.int .i64 l[k].op,.int .i64 l[k].val.1,.int .i64 l[k].val.2.1,.string l[k].val.2.2,.int .i64 l[k].aDa.cat,.string l[k].aDa.name,.bool l[k].aDa.aDi] 301))) qo (by rw[World.size_alloc];exact lT HB.o.size (Nat.le_succ _)));unfold IV jK at f;clear m g D;generalize l[k]=n at *
   cases he:lA lm n with
   |none=>
    have HE:=aA (s.o he);rw[he] at f;simp only[Option.isSome_none,Option.getD_none] at f;clear s t he;go_wp2_with fail;refine f.o.mono ?_;rintro e w2 ⟨v2,rfl,j,q⟩;have HB2:=aA ((HB.o.alloc HB.o.size (.cells (iO n) 301)).trans j);clear j q f o E F G H I J;exact FU
   |some r=>
    have L:=aA (t.o r he);have V:=Jc he;rw[he] at f;simp only[Option.isSome_some,Option.getD_some] at f;clear s t he;go_wp2_with fail;refine f.o.mono ?_;rintro e w2 ⟨v2,rfl,j,q⟩;have HB2:=aA ((HB.o.alloc HB.o.size (.cells (iO n) 301)).trans j);have K:=aA q;clear j q f o E F G H I J;go_wp2;go_roundw
    case rel=>exact⟨k+1,r,qo,qo,by go_num,L,K,HB2⟩
    case measure=>simp[intOf];omega
  .have P:¬(k:Int)<(l.length:Int):=qo;obtain rfl:k=l.length:=qo;obtain rfl:=Jd g.o;clear g;obtain⟨W,vc,rfl⟩:=p.o.slice;have C:=aA (p.o.sl qo (fun _=>True) (fun _ _ _=>trivial) (fun _ _ _=>trivial) jO);by_cases A:0<l.length
   .have Q:(0:Int)<(l.length:Int):=qo;by_cases h1:lm.length=1
    .obtain⟨x,rfl⟩:∃x,lm=[x]:=List.length_eq_one_iff.1 h1;obtain⟨b,off,r,rfl,_,O,⟨rfl,_⟩,m⟩:=aH.at jO (k:=0) C.o (Nat.lt_succ_self _) qe;have o:=m 0 _ rfl;simp only[Nat.zero_mul,Nat.add_zero,List.getElem_cons_zero] at o;clear m;have N:(([x]:List Bool).length)=1:=rfl;rw[N] at p C ⊢
     cases x
     .have HV:Hid (EW l.length (some [false])=0):=aA (iN qs);exact Sn
     .have HV:Hid (EW l.length (some [true])=1):=aA (iP ⟨A,qs⟩);exact Sn
    .have HV:Hid (EW l.length (some lm)=1):=aA (iP ⟨A,fun h=>h1 (by rw[h];rfl)⟩);have h2:¬(lm.length:Int)=1:=qo;have h3:((lm.length:Int) != 1)=true:=bne_iff_ne.2 h2;exact Sn
   .have Q:¬(0:Int)<(l.length:Int):=qo;have HV:Hid (EW l.length (some lm)=0):=aA (iN (fun h=>A h.1));exact Sn
section
open Go.Maps
theorem MW{w w':World}(h:Below w.heap.size w w')(row:Option Nat):w.grownBy w' row:=⟨h.os,h.tape,h.output,h.size,fun k a _=>h.block k a⟩
theorem Dr{s t:bY}(h:s.data.toList=t.data.toList):s=t:=ByteArray.ext (Array.ext' h)
theorem wK:Keyed prog 9:=string_keyed underlying9
theorem DN(w:World):(zeroValue 342).run prog w=.ok (.agg #[]) w:=by kernel_rfl
def NW(w:World)(mb g:Nat)(s:WS):Prop:=
 w.heap[g]? =some (.cells #[.map (some mb),.int .i64 (s.aCM:Nat)] 235 (0,0))/\mb≠g/\∃D:DataW Unit,w.ownsMap prog 9 unitElem mb s.met.length D/\∀t:bY,Maps.has D (.string t.data.toList)=s.met.any (fun u=>decide (u=t))
theorem NW.lt{w:World}{mb g:Nat}{s:WS}(h:NW w mb g s):g<w.heap.size:=(Array.getElem?_eq_some_iff.1 h.1).1
theorem NW.ltm{w:World}{mb g:Nat}{s:WS}(h:NW w mb g s):mb<w.heap.size:=by
 obtain⟨_,_,D,h1,_⟩:=h;exact h1.lt
theorem NW.on{w w':World}{mb g:Nat}{s:WS}(h:NW w mb g s)(a:Below w.heap.size w w'):NW w' mb g s:=by
 have b:=h.lt;obtain⟨h1,h2,D,h3,h4⟩:=h;exact⟨(a.block g b).trans h1,h2,D,h3.kept (MW a none) qs,h4⟩
theorem Uz{l:List ByteArray}{s t:bY}{D:DataW Unit}(h:∀t:bY,Maps.has D (.string t.data.toList)=l.any (fun u=>decide (u=t)))(b:Tidy D):Maps.has (D.put (.string s.data.toList) (.agg [])) (.string t.data.toList)=(s::l).any (fun u=>decide (u=t)):=by
 rw[List.any_cons];by_cases a:s=t
 .subst a;rw[has_put_same (k:= .string s.data.toList) b.isMap True.intro];simp
 .rw[has_put_other (by intro e;injection e with e;exact a (Dr e.symm)),h t,dF a,Bool.false_or]
def oI(w:World)(mb g:Nat)(s:WS)(v:Value)(e:Ending)(w':World):Prop:=e=.returned v/\NW w' mb g s/\aN (fun b=>b≠g/\b≠mb) w w'
theorem AE(n:bY)(d:n.size<=cQ)(mb g:Nat)(s:WS)(hm:s.met.length<=1000000)(w:World)(h:NW w mb g s):Calls prog 227 #[.pointer (some ⟨g,0,none⟩),.string n] w (oI w mb g (gN n s).2 (.bool (gN n s).1)):=by
 have p:=h.lt;have F:=h.ltm;have H:=aA h;obtain⟨h1,h2,D,h3,h4⟩:=h;obtain⟨⟨c0,c1⟩,f0,f1⟩:=fJ h1;have f:=aA (fun w=>oP n (by unfold cQ at d;unfold maxLen;omega) w);have i:keyOf prog 9 (.string n)=some (.string n.data.toList):=WideMaps.keyOf_string_mk underlying9 (by unfold cQ at d;unfold maxLen;omega);obtain⟨c,j,a⟩:=aY (h4 n) h3 (aB w (.cells #[] 342));unfold oI gN;by_cases b:s.met.any (fun t=>decide (t=n))=true
 .rw[iP (.inl b)];have A:Maps.has D (.string n.data.toList)=true:=by rw[c.o];exact b
  clear h1 h3 h4 b c d hm;go_enter func227,ntmps227;go_wp2_with (at_lookup;refine wpList_lookup_own_unit _ rfl _ _ 233 rfl 9 342 wK underlying233 (DN _) mb s.met.length D rfl j.o _ (.string n.data.toList) rfl i ?_)
  go_returns;exact⟨rfl,H.o.on a.o,aJ a.o⟩
 have A:Maps.has D (.string n.data.toList)=false:=by rw[c.o];exact eq_false_of_ne_true b
 cases l:eK n
 .rw[iP (.inr rfl)];rw[l] at f;clear h1 h3 h4 b c d hm;go_enter func227,ntmps227;go_wp2_with (first
   |(at_lookup;refine wpList_lookup_own_unit _ rfl _ _ 233 rfl 9 342 wK underlying233 (DN _) mb s.met.length D rfl j.o _ (.string n.data.toList) rfl i ?_)
   |(go_at_call 37;refine(f.o _).mono ?_;rintro e w2 ⟨rfl,rfl⟩))
  go_returns;exact⟨rfl,H.o.on a.o,aJ a.o⟩
 rw[iN (fun h=>h.elim (fun h=>b h) (fun h=>by cases h))];rw[l] at f;obtain⟨B,x,y⟩:=aY (h3.tidy wK) h4 hm;obtain⟨I,G⟩:=xE (w.alloc (.cells #[] 342));obtain⟨v,r,J⟩:=aY (h3.alloc (.cells #[] 342)) (aE h1 a.o) (⟨p,F⟩:g<w.heap.size/\mb<w.heap.size);clear h1 h3 h4 b c d hm l G I;go_enter func227,ntmps227;go_wp2_with (first
  |(at_lookup;refine wpList_lookup_own_unit _ rfl _ _ 233 rfl 9 342 wK underlying233 (DN _) mb s.met.length D rfl j.o _ (.string n.data.toList) rfl i ?_)
  |(go_at_call 37;refine(f.o _).mono ?_;rintro e w2 ⟨rfl,rfl⟩)
  |(at_mapUpdate;refine wpList_mapUpdate_own _ rfl _ _ _ 233 rfl 9 342 wK underlying233 (unitElem (H:=Unit)) mb s.met.length D rfl v.o (by have:=y.o;unfold maxLen;omega) _ _ _ rfl rfl i _ [] unitElem_mk ?_;intro K q o;have z:=aA q;have m:=aA o;clear q o))
 go_returns;have C:=(m.o.block g (lL p a.o.size) (fun e=>h2 (by injection e with e;exact e.symm))).trans r.o;refine⟨rfl,⟨C,h2,_,z.o,fun t=>Uz x.o B.o⟩,?_⟩;exact(aJ a.o).trans ((cV m.o).mono fun k _ E=>fun e=>E.2 (by injection e))
end
theorem xX(n:bY)(s:WS):(gN n s).2.aCM=s.aCM:=by
 unfold gN;by_cases h:s.met.any (fun t=>decide (t=n))=true\/eK n=false
 .rw[iP h]
 .rw[iN h]
theorem OX(n:bY)(s:WS):(gN n s).2.met.length<=s.met.length+1:=by
 unfold gN;by_cases h:s.met.any (fun t=>decide (t=n))=true\/eK n=false
 .rw[iP h];exact Nat.le_succ _
 .rw[iN h];exact lR _
theorem Je{r:Ru}{s s1:WS}(h:gN r.id s=(false,s1)):fR r s=(1,s1):=by
 unfold fR;rw[h];rfl
theorem Ds{r:Ru}{s s1:WS}(h:gN r.id s=(true,s1))(h1:64<s1.aCM+1):fR r s=(6,{s1 with aCM:=s1.aCM+1}):=by
 unfold fR;rw[h];simp only[Bool.true_eq_false,if_false,iP h1]
theorem UX{r:Ru}{s s1:WS}(h:gN r.id s=(true,s1))(h1:¬64<s1.aCM+1)(h2:eX r.aCU≠0):fR r s=(eX r.aCU,{s1 with aCM:=s1.aCM+1}):=by
 unfold fR;rw[h];simp only[Bool.true_eq_false,if_false,iN h1,iP h2]
theorem Dt{r:Ru}{s s1:WS}(h:gN r.id s=(true,s1))(h1:¬64<s1.aCM+1)(h2:eX r.aCU=0)(h3:lB r.cond≠0):fR r s=(lB r.cond,{s1 with aCM:=s1.aCM+1}):=by
 unfold fR;rw[h];simp only[Bool.true_eq_false,if_false,iN h1,h2,ne_eq,not_true_eq_false,iP h3]
theorem Du{r:Ru}{s s1:WS}(h:gN r.id s=(true,s1))(h1:¬64<s1.aCM+1)(h2:eX r.aCU=0)(h3:lB r.cond=0):fR r s=(lC r.aC0,{s1 with aCM:=s1.aCM+1}):=by
 unfold fR;rw[h];simp only[Bool.true_eq_false,if_false,iN h1,h2,h3,ne_eq,not_true_eq_false]
theorem NW.more{w:World}{mb g q:Nat}{s:WS}(h:NW w mb g s)(b:q=s.aCM+1):NW (w.setCell ⟨g,1,none⟩ (.int .i64 (q:Nat))) mb g {s with aCM:=s.aCM+1}:=by
 obtain⟨h1,h2,D,h3,h4⟩:=h;subst b;refine⟨aG h1 1 _,h2,D,?_,h4⟩;exact h3.kept (row:=some g) ⟨rfl,rfl,rfl,by simp[World.setCell],fun k c a=>Below.heap_setCell _ _ _ _ (fun e=>a (by rw[e]))⟩ (fun e=>h2 (by injection e))
theorem iB{w:World}{g mb i:Nat}(v:Value):aN (fun b=>b≠g/\b≠mb) w (w.setCell ⟨g,i,none⟩ v):=(aI v).mono fun k _ h=>h.1
theorem Jf{ok:nP}(r:Ru)(vt vc vo:Value)(mb g:Nat)(s:WS)(hm:s.met.length<=1000000)(hr:s.aCM<=1000000)(w:World)(h:NW w mb g s)(hp:rN w ok r vt vc vo)(ho:∀b,ok b->b≠g/\b≠mb):Calls prog 195 #[.pointer (some ⟨g,0,none⟩),.agg #[.string r.id,.bool r.aDl,vt,vc,vo]] w (oI w mb g (fR r s).2 (.int .i64 (fR r s).1)):=by
 have ai:=h.lt;have aj:=h.ltm;obtain⟨Y,Z,rfl,_⟩:=hp.2.1.slice;obtain⟨T,U,rfl,_⟩:=hp.2.2.1.slice;obtain⟨W,X,rfl,_⟩:=hp.2.2.2.slice;obtain⟨n,p,t,v,D⟩:=gC (AE r.id hp.1 mb g s hm _ (h.on (aB w (.cells #[.string r.id,.bool r.aDl,.slice Y r.aCU.length Z,.slice T r.cond.length U,.slice W r.aC0.length X] 276)))) (aK w (.cells #[.string r.id,.bool r.aDl,.slice Y r.aCU.length Z,.slice T r.cond.length U,.slice W r.aC0.length X] 276) _ rfl) (aB w (.cells #[.string r.id,.bool r.aDl,.slice Y r.aCU.length Z,.slice T r.cond.length U,.slice W r.aC0.length X] 276)) hp ho;have ad:=xX r.id s;unfold oI;unfold oI at n;obtain⟨ah,s1,o⟩:∃a b,gN r.id s=(a,b):=⟨_,_,rfl⟩;rw[o] at n ad;simp only at n ad;clear h hp ho
 cases ah
 .rw[Je o];simp only;clear o;go_enter func195,ntmps195;go_wp2_with fail;refine n.o.mono ?_;rintro e w1 ⟨rfl,f,j⟩;have k:=qS p j ⟨qo,qo⟩;have m:=aA ((aJ t.o).trans j);have F:=aA (v.o.aCT (m.o.mono fun b _ l=>D.o b l));obtain⟨⟨y,z,A,B,C⟩,_⟩:=dJ k.o;have x:=aD k.o;have V:=f.lt;have E:=aA f;obtain⟨⟨c0,c1⟩,f0,f1⟩:=fJ f.1;clear f j n v p t;go_wp2;go_returns;exact⟨rfl,E.o,m.o⟩
 obtain⟨q,hq⟩:=xE (s1.aCM+1);have e1:IntKind.i64.wrap ((s1.aCM:Int)+1)=(q:Int):=by rw[IntWalk.i64_in _ qo];omega
 have H:=aA hq;clear hq ad;by_cases h64:64<q
 .rw[Ds o (qA H.o)];simp only;clear o;have d:decide ((q:Int) > 64)=true:=dX qo;go_enter func195,ntmps195;go_wp2_with fail;refine n.o.mono ?_;rintro e w1 ⟨rfl,f,j⟩;have k:=qS p j ⟨qo,qo⟩;have m:=aA ((aJ t.o).trans j);have F:=aA (v.o.aCT (m.o.mono fun b _ l=>D.o b l));obtain⟨⟨y,z,A,B,C⟩,_⟩:=dJ k.o;have x:=aD k.o;have V:=f.lt;have E:=aA f;obtain⟨⟨c0,c1⟩,f0,f1⟩:=fJ f.1;clear f j n v p t;have L:=aA (E.o.more H.o);have K:=aA (m.o.trans (iB (g:=g) (mb:=mb) (i:=1) (.int .i64 (q:Nat))));have G:=aA (F.o.aCT ((iB (g:=g) (mb:=mb) (i:=1) (.int .i64 (q:Nat))).mono fun b _ l=>D.o b l));have P:=qS k (iB (g:=g) (mb:=mb) (i:=1) (.int .i64 (q:Nat))) ⟨qo,qo⟩;go_wp2;go_returns;exact⟨rfl,L.o,K.o⟩
 have d:decide ((q:Int) > 64)=false:=dF qo;have I:=aA (fun w h=>KQ (ok:=ok) (.slice Y r.aCU.length Z) r.aCU w h);unfold aP at I;by_cases J:eX r.aCU=0
 case neg=>
  rw[UX o (qA H.o) J];simp only;clear o;have d2:(eX r.aCU != 0)=true:=bne_iff_ne.2 J;clear J;generalize eX r.aCU=te at *;go_enter func195,ntmps195;go_wp2_with fail;refine n.o.mono ?_;rintro e w1 ⟨rfl,f,j⟩;have k:=qS p j ⟨qo,qo⟩;have m:=aA ((aJ t.o).trans j);have F:=aA (v.o.aCT (m.o.mono fun b _ l=>D.o b l));obtain⟨⟨y,z,A,B,C⟩,_⟩:=dJ k.o;have x:=aD k.o;have V:=f.lt;have E:=aA f;obtain⟨⟨c0,c1⟩,f0,f1⟩:=fJ f.1;clear f j n v p t;have L:=aA (E.o.more H.o);have K:=aA (m.o.trans (iB (g:=g) (mb:=mb) (i:=1) (.int .i64 (q:Nat))));have G:=aA (F.o.aCT ((iB (g:=g) (mb:=mb) (i:=1) (.int .i64 (q:Nat))).mono fun b _ l=>D.o b l));have P:=qS k (iB (g:=g) (mb:=mb) (i:=1) (.int .i64 (q:Nat))) ⟨qo,qo⟩;go_wp2_with fail;refine(I.o _ G.o.2.1).mono ?_;rintro e w3 ⟨rfl,c⟩;have R:=aA (L.o.on c);have Q:=aA (K.o.trans (aJ c));clear c I;go_wp2;go_returns;exact⟨rfl,R.o,Q.o⟩
 have N:=aA (fun w h=>GH (ok:=ok) (.slice T r.cond.length U) r.cond w h);unfold aP at N;rw[J] at I;by_cases O:lB r.cond=0
 case neg=>
  rw[Dt o (qA H.o) J O];simp only;clear o;have d2:(lB r.cond != 0)=true:=bne_iff_ne.2 O;clear J O;generalize lB r.cond=te at *;go_enter func195,ntmps195;go_wp2_with fail;refine n.o.mono ?_;rintro e w1 ⟨rfl,f,j⟩;have k:=qS p j ⟨qo,qo⟩;have m:=aA ((aJ t.o).trans j);have F:=aA (v.o.aCT (m.o.mono fun b _ l=>D.o b l));obtain⟨⟨y,z,A,B,C⟩,_⟩:=dJ k.o;have x:=aD k.o;have V:=f.lt;have E:=aA f;obtain⟨⟨c0,c1⟩,f0,f1⟩:=fJ f.1;clear f j n v p t;have L:=aA (E.o.more H.o);have K:=aA (m.o.trans (iB (g:=g) (mb:=mb) (i:=1) (.int .i64 (q:Nat))));have G:=aA (F.o.aCT ((iB (g:=g) (mb:=mb) (i:=1) (.int .i64 (q:Nat))).mono fun b _ l=>D.o b l));have P:=qS k (iB (g:=g) (mb:=mb) (i:=1) (.int .i64 (q:Nat))) ⟨qo,qo⟩;go_wp2_with fail;refine(I.o _ G.o.2.1).mono ?_;rintro e w3 ⟨rfl,c⟩;obtain⟨R,Q,S,M⟩:=dD (L.o.on c) (K.o.trans (aJ c)) (G.o.aCT (aJ c)) (aE P.o c);clear y z A B C x c I;obtain⟨⟨y,z,A,B,C⟩,_⟩:=dJ M.o;have x:=aD M.o;go_wp2_with fail;refine(N.o _ S.o.2.2.1).mono ?_;rintro e w4 ⟨rfl,c⟩;have ab:=aA (R.o.on c);have aa:=aA (Q.o.trans (aJ c));clear c N;go_wp2;go_returns;exact⟨rfl,ab.o,aa.o⟩
 rw[O] at N;have HL:=aA (fun w h=>UT (ok:=ok) (.slice W r.aC0.length X) r.aC0 w h);unfold aP at HL;rw[Du o (qA H.o) J O];simp only;clear o J O;generalize lC r.aC0=oe at *;go_enter func195,ntmps195;go_wp2_with fail;refine n.o.mono ?_;rintro e w1 ⟨rfl,f,j⟩;have k:=qS p j ⟨qo,qo⟩;have m:=aA ((aJ t.o).trans j);have F:=aA (v.o.aCT (m.o.mono fun b _ l=>D.o b l));obtain⟨⟨y,z,A,B,C⟩,_⟩:=dJ k.o;have x:=aD k.o;have V:=f.lt;have E:=aA f;obtain⟨⟨c0,c1⟩,f0,f1⟩:=fJ f.1;clear f j n v p t;have L:=aA (E.o.more H.o);have K:=aA (m.o.trans (iB (g:=g) (mb:=mb) (i:=1) (.int .i64 (q:Nat))));have G:=aA (F.o.aCT ((iB (g:=g) (mb:=mb) (i:=1) (.int .i64 (q:Nat))).mono fun b _ l=>D.o b l));have P:=qS k (iB (g:=g) (mb:=mb) (i:=1) (.int .i64 (q:Nat))) ⟨qo,qo⟩;go_wp2_with fail;refine(I.o _ G.o.2.1).mono ?_;rintro e w3 ⟨rfl,c⟩;obtain⟨R,Q,S,M⟩:=dD (L.o.on c) (K.o.trans (aJ c)) (G.o.aCT (aJ c)) (aE P.o c);clear y z A B C x c I;obtain⟨⟨y,z,A,B,C⟩,_⟩:=dJ M.o;have x:=aD M.o;go_wp2_with fail;refine(N.o _ S.o.2.2.1).mono ?_;rintro e w4 ⟨rfl,c⟩;obtain⟨ab,aa,af,B4⟩:=dD (R.o.on c) (Q.o.trans (aJ c)) (S.o.aCT (aJ c)) (aE M.o c);clear y z A B C x c N;obtain⟨⟨y,z,A,B,C⟩,_⟩:=dJ B4.o;have x:=aD B4.o;go_wp2_with fail;refine(HL.o _ af.o.2.2.2).mono ?_;rintro e w5 ⟨rfl,c⟩;have ag:=aA (ab.o.on c);have ae:=aA (aa.o.trans (aJ c));clear c HL;go_wp2;go_returns;exact⟨rfl,ag.o,ae.o⟩
theorem QAI{p:Prop}(h:p:=by
 rw[UY hnw hc1 hc2 ht];simp only;rw[hset] at HN B0 HB0;clear hnw hc1 hc2 h1 h2;have d9:(eX p.aCU != 0)=true:=bne_iff_ne.2 ht;clear ht;generalize eX p.aCU=te at *;go_enter func194,ntmps194;go_wp2_with fail;refine HN.o.mono ?_;rintro e w1 ⟨rfl,hn_,k_⟩;have B1:=qS B0 k_ ⟨qo,qo⟩;have HK:=aA ((aJ HB0.o).trans k_);have HP1:=aA (HP.o.aCT (HK.o.mono fun b _ hb=>HO.o b hb));obtain⟨⟨x0,x1,x2,x3,x4,x5,x6⟩,_⟩:=bI B1.o;have hz:=aD B1.o;have HW1:=aA hn_;clear hn_ k_ HN HP B0 HB0;go_wp2_with fail;refine(HT.o _ HP1.o.2.2.1).mono ?_;rintro e w2 ⟨rfl,hb_⟩;have HW2:=aA (HW1.o.on hb_);have HK2:=aA (HK.o.trans (aJ hb_));clear hb_ HT;go_wp2;go_returns;exact⟨rfl,HW2.o,HK2.o⟩):p:=h
theorem QAA{p:Prop}(h:p:=by
 rw[Dv hnw hc1 hc2 ht hl];simp only;rw[hset] at HN B0 HB0;clear hnw hc1 hc2 h1 h2 ht;have d9:(lC p.aC0 != 0)=true:=bne_iff_ne.2 hl;clear hl;generalize lC p.aC0=te at *;go_enter func194,ntmps194;go_wp2_with fail;refine HN.o.mono ?_;rintro e w1 ⟨rfl,hn_,k_⟩;have B1:=qS B0 k_ ⟨qo,qo⟩;have HK:=aA ((aJ HB0.o).trans k_);have HP1:=aA (HP.o.aCT (HK.o.mono fun b _ hb=>HO.o b hb));obtain⟨⟨x0,x1,x2,x3,x4,x5,x6⟩,_⟩:=bI B1.o;have hz:=aD B1.o;have HW1:=aA hn_;clear hn_ k_ HN HP B0 HB0;go_wp2_with fail;refine(HT.o _ HP1.o.2.2.1).mono ?_;rintro e w2 ⟨rfl,hb_⟩;have HW2:=aA (HW1.o.on hb_);have HK2:=aA (HK.o.trans (aJ hb_));have HP2:=aA (HP1.o.aCT (aJ hb_));have B2:=qK B1 hb_;clear x0 x1 x2 x3 x4 x5 x6 hz hb_ HT;obtain⟨⟨x0,x1,x2,x3,x4,x5,x6⟩,_⟩:=bI B2.o;have hz:=aD B2.o;go_wp2_with fail;refine(HL.o _ HP2.o.2.2.2.2.2).mono ?_;rintro e w3 ⟨rfl,hb_⟩;have HW3:=aA (HW2.o.on hb_);have HK3:=aA (HK2.o.trans (aJ hb_));clear hb_ HL;go_wp2;go_returns;exact⟨rfl,HW3.o,HK3.o⟩):p:=h
theorem ZX{p:Prop}(h:p:=by
 go_enter func194,ntmps194;go_wp2_with fail;refine HN.o.mono ?_;rintro e w1 ⟨rfl,hn_,k_⟩;have B1:=qS B0 k_ ⟨qo,qo⟩;have HK:=aA ((aJ HB0.o).trans k_);have HP1:=aA (HP.o.aCT (HK.o.mono fun b _ hb=>HO.o b hb));obtain⟨⟨x0,x1,x2,x3,x4,x5,x6⟩,_⟩:=bI B1.o;have hz:=aD B1.o;have HW1:=aA hn_;clear hn_ k_ HN HP B0 HB0;go_wp2;go_returns;exact⟨rfl,HW1.o,HK.o⟩):p:=h
theorem So{p:Prop}(h:p:=by
 go_enter func194,ntmps194;go_wp2_with fail;refine HN.o.mono ?_;rintro e w1 ⟨rfl,hn_,k_⟩;have B1:=qS B0 k_ ⟨qo,qo⟩;have HK:=aA ((aJ HB0.o).trans k_);have HP1:=aA (HP.o.aCT (HK.o.mono fun b _ hb=>HO.o b hb));obtain⟨⟨x0,x1,x2,x3,x4,x5,x6⟩,_⟩:=bI B1.o;have hz:=aD B1.o;have HW1:=aA hn_;clear hn_ k_ HN HP B0 HB0;go_wp2_with fail;refine(HT.o _ HP1.o.2.2.1).mono ?_;rintro e w2 ⟨rfl,hb_⟩;have HW2:=aA (HW1.o.on hb_);have HK2:=aA (HK.o.trans (aJ hb_));have HP2:=aA (HP1.o.aCT (aJ hb_));have B2:=qK B1 hb_;clear x0 x1 x2 x3 x4 x5 x6 hz hb_ HT;obtain⟨⟨x0,x1,x2,x3,x4,x5,x6⟩,_⟩:=bI B2.o;have hz:=aD B2.o;go_wp2_with fail;refine(HL.o _ HP2.o.2.2.2.2.2).mono ?_;rintro e w3 ⟨rfl,hb_⟩;have HW3:=aA (HW2.o.on hb_);have HK3:=aA (HK2.o.trans (aJ hb_));have HP3:=aA (HP2.o.aCT (aJ hb_));have B3:=qK B2 hb_;clear x0 x1 x2 x3 x4 x5 x6 hz hb_ HL;obtain⟨⟨x0,x1,x2,x3,x4,x5,x6⟩,_⟩:=bI B3.o;have hz:=aD B3.o;go_wp2;go_returns;exact⟨rfl,HW3.o,HK3.o⟩):p:=h
theorem DO{p:Po}{s s1:WS}{a:Bool}(h:gN p.id s=(a,s1))(h1:a=false\/p.alg<1\/6<p.alg):fH p s=(1,s1):=by
 unfold fH;rw[h];exact iP h1
theorem AO{p:Po}{s s1:WS}{a:Bool}(h:gN p.id s=(a,s1))(h1:¬(a=false\/p.alg<1\/6<p.alg))(h2:(p.set=true/\p.aCM≠[])\/(p.set=false/\(0<p.aCY.length\/p.alg=4))):fH p s=(1,s1):=by
 unfold fH;rw[h];simp only[iN h1,iP h2]
theorem UY{p:Po}{s s1:WS}{a:Bool}(h:gN p.id s=(a,s1))(h1:¬(a=false\/p.alg<1\/6<p.alg))(h2:¬((p.set=true/\p.aCM≠[])\/(p.set=false/\(0<p.aCY.length\/p.alg=4))))(h3:eX p.aCU≠0):fH p s=(eX p.aCU,s1):=by
 unfold fH;rw[h];simp only[iN h1,iN h2,iP h3]
theorem Dv{p:Po}{s s1:WS}{a:Bool}(h:gN p.id s=(a,s1))(h1:¬(a=false\/p.alg<1\/6<p.alg))(h2:¬((p.set=true/\p.aCM≠[])\/(p.set=false/\(0<p.aCY.length\/p.alg=4))))(h3:eX p.aCU=0)(h4:lC p.aC0≠0):fH p s=(lC p.aC0,s1):=by
 unfold fH;rw[h];simp only[iN h1,iN h2,h3,ne_eq,not_true_eq_false,if_false,iP h4]
theorem OY{p:Po}{s s1:WS}{a:Bool}(h:gN p.id s=(a,s1))(h1:¬(a=false\/p.alg<1\/6<p.alg))(h2:¬((p.set=true/\p.aCM≠[])\/(p.set=false/\(0<p.aCY.length\/p.alg=4))))(h3:eX p.aCU=0)(h4:lC p.aC0=0):fH p s=(if 16<p.aCM.length\/16<p.aCY.length then 6 else 0,s1):=by
 unfold fH;rw[h];simp only[iN h1,iN h2,h3,h4,ne_eq,not_true_eq_false,if_false];by_cases h5:16<p.aCM.length\/16<p.aCY.length
 .rw[iP h5,iP h5]
 .rw[iN h5,iN h5]
theorem Oz{n:Nat}{ok:nP}(p:Po)(vt vr vk vo:Value)(mb g:Nat)(s:WS)(hm:s.met.length<=1000000)(w:World)(h:NW w mb g s)(hp:fM n w ok p vt vr vk vo)(q:∀b,ok b->b≠g/\b≠mb):Calls prog 194 #[.pointer (some ⟨g,0,none⟩),.agg #[.string p.id,.bool p.set,.int .i64 p.alg,vt,vr,vk,vo]] w (oI w mb g (fH p s).2 (.int .i64 (fH p s).1)):=by
 have x:=h.lt;have y:=h.ltm;obtain⟨i,j,rfl,_⟩:=hp.2.2.1.slice;obtain⟨ra,rc,rfl,v⟩:=hp.2.2.2.1.slice;obtain⟨l,m,rfl,t⟩:=hp.2.2.2.2.1.slice;obtain⟨d,f,rfl,_⟩:=hp.2.2.2.2.2.slice;obtain⟨HN,B0,HB0,HP,HO⟩:=gC (AE p.id hp.1 mb g s hm _ (h.on (aB w (.cells #[.string p.id,.bool p.set,.int .i64 p.alg,.slice i p.aCU.length j,.slice ra p.aCM.length rc,.slice l p.aCY.length m,.slice d p.aC0.length f] 38)))) (aK w (.cells #[.string p.id,.bool p.set,.int .i64 p.alg,.slice i p.aCU.length j,.slice ra p.aCM.length rc,.slice l p.aCY.length m,.slice d p.aC0.length f] 38) _ rfl) (aB w (.cells #[.string p.id,.bool p.set,.int .i64 p.alg,.slice i p.aCU.length j,.slice ra p.aCM.length rc,.slice l p.aCY.length m,.slice d p.aC0.length f] 38)) hp q;unfold oI;unfold oI at HN;obtain⟨r,s1,hnw⟩:∃a b,gN p.id s=(a,b):=⟨_,_,rfl⟩;rw[hnw] at HN;simp only at HN;clear h hp q
 cases r
 .rw[DO hnw (.inl rfl)];simp only;clear hnw;exact ZX
 by_cases h1:p.alg<1
 .rw[DO hnw (.inr (.inl h1))];simp only;have d1:decide (p.alg<1)=true:=dX h1;clear hnw h1;exact ZX
 have d1:decide (p.alg<1)=false:=dF h1;by_cases h2:6<p.alg
 .rw[DO hnw (.inr (.inr h2))];simp only;have d2:decide (p.alg > 6)=true:=dX h2;clear hnw h1 h2;exact ZX
 have d2:decide (p.alg > 6)=false:=dF h2;have hc1:¬(true=false\/p.alg<1\/6<p.alg):=by rintro (h|h|h);cases h;exact h1 h;exact h2 h
 have HT:=aA (fun w h=>KQ (ok:=ok) (.slice i p.aCU.length j) p.aCU w h);unfold aP at HT;have HL:=aA (fun w h=>UT (ok:=ok) (.slice d p.aC0.length f) p.aC0 w h);unfold aP at HL
 cases hset:p.set
 .by_cases o:0<p.aCY.length
  .rw[AO hnw hc1 (.inr ⟨hset,.inl o⟩)];simp only;rw[hset] at HN B0 HB0;have d3:decide ((p.aCY.length:Int) > 0)=true:=dX qo;clear hnw h1 h2 hc1 HT HL;exact ZX
  have d3:decide ((p.aCY.length:Int) > 0)=false:=dF qo;by_cases h4:p.alg=4
  .rw[AO hnw hc1 (.inr ⟨hset,.inr h4⟩)];simp only;rw[hset] at HN B0 HB0;have d4:(p.alg==4)=true:=bQ.2 h4;clear hnw h1 h2 hc1 HT HL h4;exact ZX
  have d4:(p.alg==4)=false:=bN.2 h4;have hc2:¬((p.set=true/\p.aCM≠[])\/(p.set=false/\(0<p.aCY.length\/p.alg=4))):=by rintro (h|h);rw[hset] at h;cases h.1;exact h.2.elim o h4
  by_cases ht:eX p.aCU=0
  case neg=>
   exact QAI
  rw[ht] at HT;by_cases hl:lC p.aC0=0
  case neg=>
   exact QAA
  rw[hl] at HL;rw[OY hnw hc1 hc2 ht hl];simp only;rw[hset] at HN B0 HB0;clear hnw hc1 hc2 h1 h2 ht hl;by_cases h16:16<p.aCM.length
  .rw[iP (.inl h16)];have d9:decide ((p.aCM.length:Int) > 16)=true:=dX qo;exact So
  have d9:decide ((p.aCM.length:Int) > 16)=false:=dF qo;by_cases c:16<p.aCY.length
  .exact absurd c qo
  have d10:decide ((p.aCY.length:Int) > 16)=false:=dF qo;rw[iN (fun h=>h.elim h16 c)];exact So
 .by_cases k:0<p.aCM.length
  .rw[AO hnw hc1 (.inl ⟨hset,fun e=>by rw[e] at k;exact absurd k qe⟩)];simp only;rw[hset] at HN B0 HB0;have d3:decide ((p.aCM.length:Int) > 0)=true:=dX qo;clear hnw h1 h2 hc1 HT HL;exact ZX
  have d3:decide ((p.aCM.length:Int) > 0)=false:=dF qo;have hc2:¬((p.set=true/\p.aCM≠[])\/(p.set=false/\(0<p.aCY.length\/p.alg=4))):=by rintro (h|h);exact k (List.length_pos_iff.2 h.2);rw[hset] at h;cases h.1
  by_cases ht:eX p.aCU=0
  case neg=>
   exact QAI
  rw[ht] at HT;by_cases hl:lC p.aC0=0
  case neg=>
   exact QAA
  rw[hl] at HL;rw[OY hnw hc1 hc2 ht hl];simp only;rw[hset] at HN B0 HB0;clear hnw hc1 hc2 h1 h2 ht hl;by_cases h16:16<p.aCM.length
  .exact absurd h16 qo
  have d9:decide ((p.aCM.length:Int) > 16)=false:=dF qo;by_cases c:16<p.aCY.length
  .rw[iP (.inr c)];have d10:decide ((p.aCY.length:Int) > 16)=true:=dX qo;exact So
  have d10:decide ((p.aCY.length:Int) > 16)=false:=dF qo;rw[iN (fun h=>h.elim h16 c)];exact So
def pC(b:Nat)(s t:WS):Prop:=t.met.length<=s.met.length+b/\t.aCM<=s.aCM+b
theorem pC.trans{a b:Nat}{s t u:WS}(h:pC a s t)(k:pC b t u):pC (a+b) s u:=⟨qD h.1 k.1,qD h.2 k.2⟩
theorem pC.more{a b:Nat}{s t:WS}(h:pC a s t)(k:a<=b):pC b s t:=⟨qA h.1,qA h.2⟩
theorem pC.refl(b:Nat)(s:WS):pC b s s:=⟨qo,qo⟩
theorem Jg(n:bY)(s:WS):pC 1 s (gN n s).2:=⟨OX n s,by rw[xX];omega⟩
theorem OZ(r:Ru)(s:WS):pC 1 s (fR r s).2:=by
 have h:=OX r.id s;have h2:=xX r.id s;unfold fR;generalize gN r.id s=q at *;obtain⟨a,s1⟩:=q;simp only at h h2 ⊢;unfold pC;split
 .exact⟨h,by simp only;omega⟩
 split
 .exact⟨h,by simp only;omega⟩
 split
 .exact⟨h,by simp only;omega⟩
 split
 .exact⟨h,by simp only;omega⟩
 .exact⟨h,by simp only;omega⟩
theorem PA(p:Po)(s:WS):pC 1 s (fH p s).2:=by
 have h:=Jg p.id s;unfold fH;generalize gN p.id s=q at *;obtain⟨a,s1⟩:=q;simp only at h ⊢
 repeat' split
 all_goals exact h
theorem vB{p:Po}{s:WS}(h:(fH p s).1=0):p.aCM.length<=16/\p.aCY.length<=16:=by
 unfold fH at h;generalize gN p.id s=q at *;obtain⟨b,s1⟩:=q;simp only at h;by_cases h1:b=false\/p.alg<1\/6<p.alg
 .rw[iP h1] at h;simp at h
 rw[iN h1] at h;by_cases h2:(p.set=true/\p.aCM≠[])\/(p.set=false/\(0<p.aCY.length\/p.alg=4))
 .rw[iP h2] at h;simp at h
 rw[iN h2] at h;by_cases h3:eX p.aCU=0
 case neg=>rw[iP h3] at h;exact absurd h h3
 rw[iN (fun a=>a h3)] at h;by_cases h4:lC p.aC0=0
 case neg=>rw[iP h4] at h;exact absurd h h4
 rw[iN (fun a=>a h4)] at h;by_cases h5:16<p.aCM.length\/16<p.aCY.length
 .rw[iP h5] at h;simp at h
 .omega
theorem IX{α:Type}{f:α->WS->Int×WS}{b:Nat}(c:∀x s,pC b s (f x s).2):∀(l:List α) (s:WS),pC (l.length * b) s (jB f l s).2
 | [],s=>pC.refl _ s
 |x::l,s=>by
  have h1:=c x s;have h2:=IX c l (f x s).2;unfold jB;generalize f x s=q at *;obtain⟨e,s1⟩:=q;simp only at h1 h2 ⊢;have a:(x::l).length * b=b+l.length * b:=by rw[List.length_cons,Nat.add_mul];omega
  by_cases he:e≠0
  .rw[iP he];exact h1.more (by rw[a];omega)
  .rw[iN he,a];exact h1.trans h2
def kY:Nat->Nat
 |0=>0
 |n+1=>17+16 * kY n
theorem DP{n:Nat}{p:Po}{s:WS}(h:(fH p s).1≠0):eN (n+1) p s=fH p s:=by
 unfold eN;generalize fH p s=q at *;obtain⟨e,s1⟩:=q;exact iP h
theorem BK{n:Nat}{p:Po}{s s1:WS}(h:fH p s=(0,s1))(h1:(jB fR p.aCM s1).1≠0):eN (n+1) p s=jB fR p.aCM s1:=by
 unfold eN;rw[h];simp only[ne_eq,not_true_eq_false,if_false];generalize jB fR p.aCM s1=q at *;obtain⟨e,s2⟩:=q;exact iP h1
theorem DQ{n:Nat}{p:Po}{s s1 s2:WS}(h:fH p s=(0,s1))(h1:jB fR p.aCM s1=(0,s2)):eN (n+1) p s=jB (eN n) p.aCY s2:=by
 unfold eN;rw[h];simp only[ne_eq,not_true_eq_false,if_false];rw[h1];simp only[not_true_eq_false,if_false]
theorem GI:∀(n:Nat) (p:Po) (s:WS),pC (kY n) s (eN n p s).2
 |0,p,s=>pC.refl _ s
 |n+1,p,s=>by
  have h1:=PA p s;have e:=vB (p:=p) (s:=s);by_cases a:(fH p s).1=0
  case neg=>rw[DP a];exact h1.more (by unfold kY;omega)
  obtain⟨g,f⟩:=e a;obtain⟨s1,b⟩:∃s1,fH p s=(0,s1):=⟨_,Prod.ext a rfl⟩;rw[b] at h1;have h2:=IX OZ p.aCM s1;by_cases c:(jB fR p.aCM s1).1=0
  case neg=>rw[BK b c];exact(h1.trans h2).more (by unfold kY;omega)
  obtain⟨s2,d⟩:∃s2,jB fR p.aCM s1=(0,s2):=⟨_,Prod.ext c rfl⟩;rw[d] at h2;rw[DQ b d];refine((h1.trans h2).trans (IX (GI n) p.aCY s2)).more ?_;have:=Nat.mul_le_mul_right (kY n) f;show 1+p.aCM.length * 1+p.aCY.length * kY n<=17+16 * kY n;omega
section
variable {α:Type} {f:α->WS->Int×WS} {l:List α} {k:Nat} {s:WS} {res:Int×WS}
theorem PC(a:k<l.length)(h:jB f (l.drop k) s=res)(h1:(f l[k] s).1≠0):res=f l[k] s:=by
 rw[<-h,List.drop_eq_getElem_cons a];unfold jB;generalize f l[k] s=q at *;obtain⟨e,s1⟩:=q;exact iP h1
theorem ZY{s1:WS}(a:k<l.length)(h:jB f (l.drop k) s=res)(h1:f l[k] s=(0,s1)):jB f (l.drop (k+1)) s1=res:=by
 rw[<-h,List.drop_eq_getElem_cons a]
 conv=>rhs;unfold jB
 rw[h1];simp only[ne_eq,not_true_eq_false,if_false]
theorem UZ(h:jB f (l.drop l.length) s=res):res=(0,s):=by
 rw[<-h,List.drop_length];rfl
end
def Dw(n:Nat):Prop:=∀(d:Int),d=5 - (n:Int)->∀(m:Nat) (ok:nP) (p:Po) (vt vr vk vo:Value) (mb g:Nat) (s:WS) (w:World),s.met.length+kY n<=1000000->s.aCM+kY n<=1000000->NW w mb g s->fM m w ok p vt vr vk vo->(∀b,ok b->b≠g/\b≠mb)->
 Calls prog 147 #[.pointer (some ⟨g,0,none⟩),.agg #[.string p.id,.bool p.set,.int .i64 p.alg,vt,vr,vk,vo],.int .i64 d] w (oI w mb g (eN n p s).2 (.int .i64 (eN n p s).1))
theorem Jh:Dw 0:=fun d l m ok p vt vr vk vo mb g s w hm o h hp n=>by
 obtain⟨f,i,rfl,_⟩:=hp.2.2.1.slice;obtain⟨ra,rc,rfl,r⟩:=hp.2.2.2.1.slice;obtain⟨a,b,rfl,q⟩:=hp.2.2.2.2.1.slice;obtain⟨c,e,rfl,_⟩:=hp.2.2.2.2.2.slice;have k:=aA (h.on (aB w (.cells #[.string p.id,.bool p.set,.int .i64 p.alg,.slice f p.aCU.length i,.slice ra p.aCM.length rc,.slice a p.aCY.length b,.slice c p.aC0.length e] 38)));have j:=aA (aB w (.cells #[.string p.id,.bool p.set,.int .i64 p.alg,.slice f p.aCU.length i,.slice ra p.aCM.length rc,.slice a p.aCY.length b,.slice c p.aC0.length e] 38));obtain rfl:d=5:=qo;unfold oI eN;clear h hp n hm o l;go_enter func147,ntmps147;go_wp2;go_returns;exact⟨rfl,k.o,aJ j.o⟩
theorem Ji(n:Nat)(hn:n<=3)(HI:Dw n):Dw (n+1):=fun d hd m ok p vt vr vk vo mb g s w hm hr h hp ho=>by
 have bu:=h.lt;have bw:=h.ltm;obtain⟨ta,tc,rfl,_⟩:=hp.2.2.1.slice;obtain⟨ra,rc,rfl,bt⟩:=hp.2.2.2.1.slice;obtain⟨ka,kc,rfl,bs⟩:=hp.2.2.2.2.1.slice;obtain⟨oa,oc,rfl,_⟩:=hp.2.2.2.2.2.slice;have bg:s.met.length+(17+16 * kY n)<=1000000:=hm;have bh:s.aCM+(17+16 * kY n)<=1000000:=hr;obtain⟨bd,be,B0,ae,HP,HO,H⟩:=hD7 bg bh (aK w (.cells #[.string p.id,.bool p.set,.int .i64 p.alg,.slice ta p.aCU.length tc,.slice ra p.aCM.length rc,.slice ka p.aCY.length kc,.slice oa p.aC0.length oc] 38) _ rfl) (aB w (.cells #[.string p.id,.bool p.set,.int .i64 p.alg,.slice ta p.aCU.length tc,.slice ra p.aCM.length rc,.slice ka p.aCY.length kc,.slice oa p.aC0.length oc] 38)) hp ho (Oz p _ _ _ _ mb g s qo _ (h.on (aB w (.cells #[.string p.id,.bool p.set,.int .i64 p.alg,.slice ta p.aCU.length tc,.slice ra p.aCM.length rc,.slice ka p.aCY.length kc,.slice oa p.aC0.length oc] 38))) (hp.aCT (aJ (aB w (.cells #[.string p.id,.bool p.set,.int .i64 p.alg,.slice ta p.aCU.length tc,.slice ra p.aCM.length rc,.slice ka p.aCY.length kc,.slice oa p.aC0.length oc] 38)))) ho);have W:=PA p s;have d4:decide (d > 4)=false:=dF qo;have bm:=aA HI;have HD:=aA hd;obtain⟨d2,aq⟩:=xE (d+1);have e1:IntKind.i64.wrap (d+1)=d2:=by rw[IntWalk.i64_in _ qo];exact aq.symm
 have bj:=aA aq;unfold oI at H ⊢;clear h hp ho hm hr bg bh hd aq HI;by_cases O:(fH p s).1=0
 case neg=>
  rw[DP O];have dh:((fH p s).1 != 0)=true:=bne_iff_ne.2 O;clear O W;generalize fH p s=q at *;obtain⟨e,s1⟩:=q;simp only at H dh ⊢;go_enter func147,ntmps147;go_wp2_with fail;refine H.o.mono ?_;rintro e w1 ⟨rfl,f,a⟩;have aa:=aA f;have Z:=aA ((aJ ae.o).trans a);clear f a H;go_wp2;go_returns;exact⟨rfl,aa.o,Z.o⟩
 have hlen:=vB O;obtain⟨s1,ad⟩:∃s1,fH p s=(0,s1):=⟨_,Prod.ext O rfl⟩;rw[ad] at H W;simp only at H W;have af:=aA W;obtain⟨br,ab⟩:=xE (eN (n+1) p s);rw[<-ab];have ai:=aA (fun h1=>ab.trans (BK (n:=n) ad h1));have ag:=aA (fun s2 h1=>ab.trans (DQ (n:=n) (s2:=s2) ad h1));obtain⟨bz,bx⟩:=hlen;clear ab ad O W;obtain⟨R1,an⟩:=xE (jB fR p.aCM s1);rw[<-an] at ai ag;have U:Hid (jB fR (p.aCM.drop 0) s1=R1):=aA (by rw[List.drop_zero];exact an.symm);clear an;go_enter func147,ntmps147;go_wp2_with fail;refine H.o.mono ?_;rintro e w1 ⟨rfl,f,a⟩;obtain⟨aa,Z,B1⟩:=aY f ((aJ ae.o).trans a) (aF B0.o a ⟨qo,qo⟩);obtain⟨⟨x,D,E,F,G,Q,R⟩,_⟩:=bI B1.o;have hz:=aD B1.o;clear f a H B0 ae;go_wp2;clear x D E F G Q R hz;go_loopw [25] (fun i wr=>∃(k:Nat) (j:WS),k<=p.aCM.length/\i=.int .i64 k/\Hid (jB fR (p.aCM.drop k) j=R1)/\Hid (pC k s1 j)/\Hid (NW wr mb g j)/\Hid (aN (fun b=>b≠g/\b≠mb) w wr)/\Hid (aN (fun b=>b≠g/\b≠mb) w1 wr)) (fun i _=>p.aCM.length - (intOf i).toNat)
 case atStart=>exact⟨0,s1,Nat.zero_le _,rfl,U,aA (pC.refl _ _),aa,Z,aA (aN.refl _ _)⟩
 case round=>
  clear U aa Z;obtain⟨k,j,hk,rfl,v,l,A,o,T⟩:=hrel;by_cases M:k<p.aCM.length
  .have bp:(k:Int)<(p.aCM.length:Int):=qo;obtain⟨b,off,rr,rfl,_,bo,⟨b5,b0,b2,rfl,X⟩,V⟩:=aH.at bM (HP.o.aCT (o.o.mono fun b _ hb=>HO.o b hb)).2.2.2.1 M qe;have K:=aA (fun h1=>PC M v.o h1);have I:=aA (fun s1 h1=>ZY (s1:=s1) M v.o h1);have t:=aA (OZ p.aCM[k] j);obtain⟨a7,ba,rfl,_⟩:=X.2.1.slice;obtain⟨ak,al,rfl,_⟩:=X.2.2.1.slice;obtain⟨aw,ay,rfl,_⟩:=X.2.2.2.slice;obtain⟨x,D,E,F,G⟩:=FM V;rw[Nat.add_zero] at x;clear V v;generalize p.aCM[k]=r at *;have c:=aA (Jf r _ _ _ mb g j (qF l.o.1 af.o.1 bd.o) (qF l.o.2 af.o.2 be.o) _ (A.o.on (aB wr (.cells #[.string r.id,.bool r.aDl,.slice a7 r.aCU.length ba,.slice ak r.cond.length al,.slice aw r.aC0.length ay] 276))) (X.aCT (aJ (aB wr (.cells #[.string r.id,.bool r.aDl,.slice a7 r.aCU.length ba,.slice ak r.cond.length al,.slice aw r.aC0.length ay] 276)))) HO.o);have z:=aA (aB wr (.cells #[.string r.id,.bool r.aDl,.slice a7 r.aCU.length ba,.slice ak r.cond.length al,.slice aw r.aC0.length ay] 276));unfold oI at c;clear X;by_cases he:(fR r j).1=0
   .obtain⟨B,N⟩:∃B,fR r j=(0,B):=⟨_,Prod.ext he rfl⟩;have ah:=aA (I.o _ N);rw[N] at c t;simp only at c t;have Y:=aA (l.o.trans t.o);clear K I t he N l A;go_wp2_with fail;refine c.o.mono ?_;rintro e w2 ⟨rfl,f,a⟩;obtain⟨L,J,bn⟩:=aY f ((o.o.trans (aJ z.o)).trans a) ((T.o.trans (aJ z.o)).trans a);clear f a c z o T x D E F G;go_wp2;go_roundw
    case rel=>exact⟨k+1,B,qo,by go_num,ah,Y,L,J,bn⟩
    case measure=>simp[intOf];omega
   .have ar:=K.o he;have S:=aA (ai.o (by rw[ar];exact he));have aj:=aA ar;have de:((fR r j).1 != 0)=true:=bne_iff_ne.2 he;clear K I t he ar l A;generalize fR r j=q at *;obtain⟨e0,B⟩:=q;simp only at c de;go_wp2_with fail;refine c.o.mono ?_;rintro e w2 ⟨rfl,f,a⟩;have L:=aA f;have J:=aA ((o.o.trans (aJ z.o)).trans a);clear f a c z o T x D E F G;go_wp2;go_returns;rw[S.o,aj.o];exact⟨rfl,L.o,J.o⟩
  .have bp:¬(k:Int)<(p.aCM.length:Int):=qo;obtain rfl:k=p.aCM.length:=qo;have S:=aA (ag.o j (UZ v.o));obtain⟨R2,ao⟩:=xE (jB (eN n) p.aCY j);rw[<-ao] at S;have U:Hid (jB (eN n) (p.aCY.drop 0) j=R2):=aA (by rw[List.drop_zero];exact ao.symm);have Y:=aA (af.o.trans l.o);clear ao ai ag v l;have B2:=qS B1 T.o ⟨qo,qo⟩;obtain⟨⟨x,D,E,F,G,Q,R⟩,_⟩:=bI B2.o;have hz:=aD B2.o;clear T
   rename World=>wx
   go_wp2;clear x D E F G Q R hz;go_loopw [39] (fun i wr=>∃(k:Nat) (C:WS),k<=p.aCY.length/\i=.int .i64 k/\Hid (jB (eN n) (p.aCY.drop k) C=R2)/\Hid (pC (k * kY n) j C)/\Hid (NW wr mb g C)/\Hid (aN (fun b=>b≠g/\b≠mb) w wr)) (fun i _=>p.aCY.length - (intOf i).toNat)
   case atStart=>exact⟨0,j,Nat.zero_le _,rfl,U,aA (pC.refl _ _),A,o⟩
   case round=>
    clear U A o;obtain⟨k,C,hk,rfl,v,l,A,o⟩:=hrel;by_cases M:k<p.aCY.length
    .have bq:(k:Int)<(p.aCY.length:Int):=qo;have hbound:(k+1) * kY n<=16 * kY n:=Nat.mul_le_mul_right _ qo;have bc:=aA hbound;clear hbound;obtain⟨b,off,rr,rfl,_,bo,bf,V⟩:=aH.at (bB m) (HP.o.aCT (o.o.mono fun b _ hb=>HO.o b hb)).2.2.2.2.1 M qe
     rcases m with _|m
     .exact bf.elim
     obtain⟨b6,b4,b1,b3,rfl,P⟩:=bf;have K:=aA (fun h1=>PC M v.o h1);have I:=aA (fun s1 h1=>ZY (s1:=s1) M v.o h1);have t:=aA (GI n p.aCY[k] C);obtain⟨a8,bb,rfl,_⟩:=P.2.2.1.slice;obtain⟨a1,a6,rfl,_⟩:=P.2.2.2.1.slice;obtain⟨au,av,rfl,_⟩:=P.2.2.2.2.1.slice;obtain⟨ax,az,rfl,_⟩:=P.2.2.2.2.2.slice;obtain⟨x,D,E,F,G,Q,R⟩:=CD V;rw[Nat.add_zero] at x;clear V v;generalize p.aCY[k]=y at *;have c:=aA (bm.o d2 (qD HD.o bj.o) m ok y _ _ _ _ mb g C _ (by have:=l.o.1;have:=Y.o.1;have:=bd.o;have:=bc.o;rw[Nat.add_mul] at this;omega) (by have:=l.o.2;have:=Y.o.2;have:=be.o;have:=bc.o;rw[Nat.add_mul] at this;omega) (A.o.on (aB wr (.cells #[.string y.id,.bool y.set,.int .i64 y.alg,.slice a8 y.aCU.length bb,.slice a1 y.aCM.length a6,.slice au y.aCY.length av,.slice ax y.aC0.length az] 38))) ((show fM m _ ok y _ _ _ _ from P).aCT (aJ (aB wr (.cells #[.string y.id,.bool y.set,.int .i64 y.alg,.slice a8 y.aCU.length bb,.slice a1 y.aCM.length a6,.slice au y.aCY.length av,.slice ax y.aC0.length az] 38)))) HO.o);have z:=aA (aB wr (.cells #[.string y.id,.bool y.set,.int .i64 y.alg,.slice a8 y.aCU.length bb,.slice a1 y.aCM.length a6,.slice au y.aCY.length av,.slice ax y.aC0.length az] 38));unfold oI at c;clear P;by_cases he:(eN n y C).1=0
     .obtain⟨B,N⟩:∃B,eN n y C=(0,B):=⟨_,Prod.ext he rfl⟩;have ah:=aA (I.o _ N);rw[N] at c t;simp only at c t;have bl:Hid (pC ((k+1) * kY n) j B):=aA (by rw[Nat.add_mul,Nat.one_mul];exact l.o.trans t.o);clear K I t he N l A;go_wp2_with fail;refine c.o.mono ?_;rintro e w2 ⟨rfl,f,a⟩;have L:=aA f;have J:=aA ((o.o.trans (aJ z.o)).trans a);clear f a c z o x D E F G Q R;go_wp2;go_roundw
      case rel=>exact⟨k+1,B,qo,by go_num,ah,bl,L,J⟩
      case measure=>simp[intOf];omega
     .have aj:=aA (K.o he);have de:((eN n y C).1 != 0)=true:=bne_iff_ne.2 he;clear K I t he l A;generalize eN n y C=q at *;obtain⟨e0,B⟩:=q;simp only at c de;go_wp2_with fail;refine c.o.mono ?_;rintro e w2 ⟨rfl,f,a⟩;have L:=aA f;have J:=aA ((o.o.trans (aJ z.o)).trans a);clear f a c z o x D E F G Q R;go_wp2;go_returns;rw[S.o,aj.o];exact⟨rfl,L.o,J.o⟩
    .have bq:¬(k:Int)<(p.aCY.length:Int):=qo;obtain rfl:k=p.aCY.length:=qo;have bk:=aA (UZ v.o);clear v l;go_wp2;go_returns;rw[S.o,bk.o];exact⟨rfl,A.o,o.o⟩
theorem VA:∀n,n<=4->Dw n
 |0,_=>Jh
 |n+1,h=>Ji n qo (VA n qo)
section
open Go.Maps
theorem rY{ok:nP}{m:Nat}(p:Po)(vt vr vk vo:Value)(w:World)(hp:fM m w ok p vt vr vk vo):Calls prog 81 #[.agg #[.string p.id,.bool p.set,.int .i64 p.alg,vt,vr,vk,vo]] w (aP (.int .i64 (fL p)) w):=by
 obtain⟨A,B,rfl,_⟩:=hp.2.2.1.slice;obtain⟨ra,rc,rfl,D⟩:=hp.2.2.2.1.slice;obtain⟨v,x,rfl,C⟩:=hp.2.2.2.2.1.slice;obtain⟨y,z,rfl,_⟩:=hp.2.2.2.2.2.slice;have E:= @run_makeMap prog;obtain⟨w1,f⟩:=xE (w.alloc (.cells (kH p A B ra rc v x y z) 38));have l:Below w.heap.size w w1:=by rw[f];exact aB _ _
 have d:w1.heap.size=w.heap.size+1:=by rw[f];simp
 have n:=World.ownsMap_made (H:=Unit) w1 prog 9 unitElem;have g:Hid (NW ((w1.alloc (.map #[] 0)).alloc (.cells #[.map (some (w.heap.size+1)),.int .i64 0] 235)) (w.heap.size+1) (w.heap.size+2) ⟨[],0⟩):=aA (by
  refine⟨aK _ _ _ (by simp[d]),qo,.map [],?_,fun t=>by simp[Maps.has]⟩;rw[<-d];exact n.alloc _)
 have a:Hid (Below w.heap.size w ((w1.alloc (.map #[] 0)).alloc (.cells #[.map (some (w.heap.size+1)),.int .i64 0] 235))):=aA ((l.alloc qo _).alloc (by simp[d];omega) _);have i:=aA (hp.inb.aCT (aJ a.o));have c:=aA (VA 4 (lR _) 1 qo m _ p _ _ _ _ (w.heap.size+1) (w.heap.size+2) ⟨[],0⟩ _ qe qe g.o i.o (fun b j=>⟨qA j.2,qA j.2⟩));rw[f] at c a;unfold oI at c;unfold aP fL;generalize eN 4 p ⟨[],0⟩=q at *;clear hp g i n l d f;go_enter func81,ntmps81;go_wp2_with fail;refine c.o.mono ?_;rintro e w2 ⟨rfl,_,o⟩;have r:=aA (a.o.trans (o.below (fun k s=>⟨lL s a.o.size,qo,qo⟩)));clear o c a;go_wp2;go_returns;exact⟨rfl,r.o⟩
end
theorem KR(s:bY)(w:World)(a:gU w):Calls prog 35 #[.string s] w (yL s.data.toList w):=by
 by_cases c:s.size<=4096
 .exact ZO s c w a
 have b:jM s.data.toList=([],6,4096):=by
  unfold jM;rw[iP (by rw[Array.length_toList];show 4096<s.size;omega)]
 unfold yL;rw[b];have d:decide ((s.size:Int) > 4096)=true:=dX qo;have d2:4096<s.size:=qo;clear b c a;go_enter func35,ntmps35;go_wp2;refine uM 0 (fun _ _=>False) (fun _ _=>0) rfl (fun _ _ h=>h.elim) ?_;intro _;go_wp2;simp only[Exit.jump];go_ret3
 exact⟨_,rfl,aH.nil,Below.refl _ _⟩
theorem QAF{p:Prop}(h:p:=by
 clear hb_ HRI c0 c1 c2 c3 c4 y0 y1 y2 y3 y4 y5 y6;obtain⟨A2_,c2_,c0,c1,c2,c3,c4,_⟩:=HP7.o.cells;rw[HBD.o] at c3;obtain⟨⟨y0,y1,y2,y3,y4,y5,y6⟩,_⟩:=bI BO7.o;obtain⟨⟨x0,x1,x2,x3,x4,x5,x6⟩,f0,f1,f2,f3,f4,f5,f6⟩:=bI B7.o;have hyl:=aD BO7.o;have HOX:=aA (HO7.o.more (ok':=fun b=>w.heap.size<b) (fun b hb=>hb.1));go_wp2;refine bR (.tuple #[.agg #[.string out.id,.bool out.set,.int .i64 out.alg,.slice ta out.aCU.length tc,.slice ra out.aCM.length rc,.slice ka out.aCY.length kc,.slice oa out.aC0.length oc],.int .i64 0,.int .i64 0]) ?_;rw[HV.o];refine⟨_,rfl,⟨_,_,_,_,rfl,(HOX.o.set.set.set.set.set.set.set).more (fun b hb=>Nat.le_of_lt hb)⟩,?_⟩;exact(((((((HB7.o.setCell (lR _) _).setCell (lR _) _).setCell (lR _) _).setCell (lR _) _).setCell (lR _) _).setCell (lR _) _).setCell (lR _) _)):p:=h
theorem QAy{p:Prop}(h:p:=by
 clear hb_ HRI c0 c1 c2 c3 c4 y0 y1 y2 y3 y4 y5 y6;go_wp2_with fail;refine(HWA.o _ _ HP7.o).mono ?_;rintro e w8 ⟨rfl,h_,k_⟩;have HB8:=aA (HB7.o.trans (k_.below (fun k hk=>⟨lL hk HB7.o.size,qo⟩)));have B8:=qS B7 k_ qo;have HP8:=aA h_;clear h_ k_ HWA HP7 B7 HB7;obtain⟨A2_,c2_,c0,c1,c2,c3,c4,_⟩:=HP8.o.cells;rw[HWR.o.1] at c3;rw[HWR.o.2] at c4;have hgl8:=HP8.o.lt;obtain⟨⟨x0,x1,x2,x3,x4,x5,x6⟩,f0,f1,f2,f3,f4,f5,f6⟩:=bI B8.o;go_wp2;go_region
 all_goals
  go_wp2;refine bR (.tuple #[.agg #[.string ⟨#[]⟩,.bool false,.int .i64 0,.slice none 0 0,.slice none 0 0,.slice none 0 0,.slice none 0 0],.int .i64 (5),.int .i64 ((S.size:Int))]) ?_;rw[HV.o];refine⟨_,rfl,⟨_,_,_,_,rfl,EX _ _⟩,?_⟩
  first
   |exact(((((((HB8.o.setCell (lR _) _).setCell (lR _) _).setCell (lR _) _).setCell (lR _) _).setCell (lR _) _).setCell (lR _) _).setCell (lR _) _).drew
   |exact(((((((HB8.o.drew.setCell (lR _) _).setCell (lR _) _).setCell (lR _) _).setCell (lR _) _).setCell (lR _) _).setCell (lR _) _).setCell (lR _) _)):p:=h
def ZZ(l:List Tok)(p:PS):PS:=if (aU l p).aCJ≠7 then dM l p else p
def wL(S:bY)(out:Po)(a:PS):PS:=if a.bad=0/\fL out≠0 then eO 5 S.size a else a
def uO(out:Po)(a:PS):Po×Int×Int:=if a.bad≠0 then (mB,a.bad,a.place) else (out,0,0)
theorem VB{S:bY}{l:List Tok}{e place:Int}(h:jM S.data.toList=(l,e,place))(h1:e≠0):fD S=(mB,e,place):=by
 unfold fD;rw[h];exact iP h1
theorem PD{S:bY}{l:List Tok}{place:Int}(h:jM S.data.toList=(l,0,place)):fD S=uO (cO l 3 ⟨0,0,0,0⟩).1 (wL S (cO l 3 ⟨0,0,0,0⟩).1 (ZZ l (cO l 3 ⟨0,0,0,0⟩).2)):=by
 unfold fD;rw[h];rfl
theorem EX(w:World)(ok:nP):fM 3 w ok mB (.slice none 0 0) (.slice none 0 0) (.slice none 0 0) (.slice none 0 0):=⟨qe,by unfold bK;decide,aH.nil,aH.nil,aH.nil,aH.nil⟩
theorem Pb(a b c:Int)(s:bY)(w:World):(Instr.field 104 (.agg #[.int .i64 a,.int .i64 b,.int .i64 c,.string s]) 0).run prog w=.ok (.int .i64 a) w:=by kernel_rfl
theorem fM.set{n g i:Nat}{w:World}{x:Value}{p:Po}{vt vr vk vo:Value}(h:fM n w (fun b=>g<b) p vt vr vk vo):fM n (w.setCell ⟨g,i,none⟩ x) (fun b=>g<b) p vt vr vk vo:=h.aCT ((aI x).mono fun k _ a=>by have:g<k:=a;show k≠g;omega)
def vC(S:bY)(w:World)(e:Ending)(w':World):Prop:=
 ∃v,e=.returned (.tuple #[v,.int .i64 (fD S).2.1,.int .i64 (fD S).2.2])/\PoV 3 w' (fun b=>w.heap.size<=b) v (fD S).1/\Below w.heap.size w w'
theorem rZ(S:bY)(w:World)(hg:gU w):Calls prog 47 #[.string S] w (vC S w):=by
 have n:=aA (fun w h=>KR S w h);have T:=aA hg;unfold yL at n;unfold vC;obtain⟨L,W,ah,o⟩:∃L e pl,jM S.data.toList=(L,e,pl):=⟨_,_,_,rfl⟩;rw[o] at n;simp only at n;clear hg;by_cases he:W=0
 case neg=>
  rw[VB o he];have d:(W != 0)=true:=bne_iff_ne.2 he;clear o he;go_enter func47,ntmps47;go_wp2_with fail;refine(n.o _ (T.o.on (aB _ _))).mono ?_;rintro e w1 ⟨v,rfl,i,hb_⟩;obtain⟨m,y,E⟩:=aY (aE (aK w (.cells vZ 38) _ rfl) hb_) (aC (aB w (.cells vZ 38)) hb_) i;obtain⟨la,lc,rfl,ab⟩:=i.slice;clear i hb_ n;obtain⟨⟨x0,x1,x2,x3,x4,x5,x6⟩,f0,f1,f2,f3,f4,f5,f6⟩:=bI m.o;go_wp2;refine bR (.tuple #[.agg #[.string ⟨#[]⟩,.bool false,.int .i64 0,.slice none 0 0,.slice none 0 0,.slice none 0 0,.slice none 0 0],.int .i64 W,.int .i64 ah]) ?_;refine⟨_,rfl,⟨_,_,_,_,rfl,EX _ _⟩,?_⟩;exact((((((y.o.setCell (lR _) _).setCell (lR _) _).setCell (lR _) _).setCell (lR _) _).setCell (lR _) _).setCell (lR _) _).setCell (lR _) _
 subst he;rw[PD o];obtain⟨P,X⟩:Toks L/\0<L.length:=by have h:=SH (l:=S.data.toList) (by rw[o]);rw[o] at h;exact h
 have hM:AM L:=by have h:=Iv (l:=S.data.toList) (by rw[o]);rw[o] at h;exact h
 have U:=aA (rP P 3 (p:=⟨0,0,0,0⟩) X);have Z:=aA P.len;have D:=aA (fun g w h=>KO P hM 3 (lR _) 1 qe ⟨0,0,0,0⟩ g w X (Nat.zero_le _) h);unfold wJ at D;generalize cO L 3 ⟨0,0,0,0⟩=q at *;obtain⟨out,p⟩:=q;simp only at D U ⊢;have G:=aA (fun g w h=>gH U.o.lt Z.o g w h);have V:=aA (fun g w h=>lQ U.o.lt Z.o g w h);unfold aP gY at G;unfold eR at V;clear o P hM X;have ai:=Pb (aU L p).aCJ (aU L p).at_ (aU L p).num (aU L p).str;by_cases hk:(aU L p).aCJ=7
 .have K:ZZ L p=p:=iN (fun h=>h hk);have dk:((aU L p).aCJ != 7)=false:=by rw[hk];rfl
  rw[K];clear K hk;go_enter func47,ntmps47;go_wp2_with fail;refine(n.o _ (T.o.on (aB _ _))).mono ?_;rintro e w1 ⟨v,rfl,i,hb_⟩;obtain⟨m,y,E⟩:=aY (aE (aK w (.cells vZ 38) _ rfl) hb_) (aC (aB w (.cells vZ 38)) hb_) i;obtain⟨la,lc,rfl,ab⟩:=i.slice;clear i hb_ n;have af:=aD m.o;have J:Hid (PW L (w1.alloc (.cells #[.slice la L.length lc,.int .i64 0,.int .i64 0,.int .i64 0,.int .i64 0] 155)) w1.heap.size ⟨0,0,0,0⟩):=aA ⟨la,lc,aK _ _ _ rfl,((E.o.inb gX).on gX (aB _ _)).more gX (fun b hb=>hb.2)⟩;have z:=qB y (aB w1 (.cells #[.slice la L.length lc,.int .i64 0,.int .i64 0,.int .i64 0,.int .i64 0] 155));go_wp2_with fail;refine(D.o _ _ J.o).mono ?_;rintro e j ⟨vt,vr,vk,vo,rfl,c,M,k_⟩;obtain⟨ta,tc,rfl,_⟩:=c.2.2.1.slice;obtain⟨ra,rc,rfl,_⟩:=c.2.2.2.1.slice;obtain⟨ka,kc,rfl,_⟩:=c.2.2.2.2.1.slice;obtain⟨oa,oc,rfl,_⟩:=c.2.2.2.2.2.slice;have s:=aA (aF (aE m.o (aB w1 (.cells #[.slice la L.length lc,.int .i64 0,.int .i64 0,.int .i64 0,.int .i64 0] 155))) k_ qo);have F:=aA (z.o.trans (k_.below (fun k hk=>⟨lL hk z.o.size,qo⟩)));have A:=aA M;have H:=aA (c.more (ok':=fun b=>w.heap.size<b/\b≠w1.heap.size) (fun b hb=>by have h9:(w1.alloc _).heap.size<=b:=hb;rw[World.size_alloc] at h9;exact⟨by show w.heap.size<b;omega,by show b≠w1.heap.size;omega⟩));have ag:=aD s.o;have ad:=A.o.lt;clear c M k_ D J z m y E;have B:=aA (A.o.on (aB j (.cells (kH out ta tc ra rc ka kc oa oc) 38)));go_wp2_with fail;refine(G.o _ _ B.o).mono ?_;rintro e w5 ⟨rfl,hb_⟩;obtain⟨C,I,t,x,r⟩:=gC (B.o.on hb_) ((H.o.aCT (aJ (aB j (.cells (kH out ta tc ra rc ka kc oa oc) 38)))).aCT (aJ hb_)) (aE (aE s.o (aB j (.cells (kH out ta tc ra rc ka kc oa oc) 38))) hb_) (aE (aK j (.cells (kH out ta tc ra rc ka kc oa oc) 38) _ rfl) hb_) (aC (aC F.o (aB j (.cells (kH out ta tc ra rc ka kc oa oc) 38))) hb_)
  clear hb_ G B A H s F;obtain⟨A_,c_,c0,c1,c2,c3,c4,_⟩:=C.o.cells;obtain⟨⟨y0,y1,y2,y3,y4,y5,y6⟩,_⟩:=bI x.o;have ae:=C.o.lt;have hyl:=aD x.o;by_cases hb:p.bad=0
  case neg=>
   have HV:Hid (uO out (wL S out p)=(mB,p.bad,p.place)):=aA (by unfold wL;rw[iN (fun h=>hb h.1)];exact iP hb);have d1:(p.bad==0)=false:=bN.2 hb;have d2:(p.bad != 0)=true:=bne_iff_ne.2 hb;clear hb;obtain⟨⟨x0,x1,x2,x3,x4,x5,x6⟩,f0,f1,f2,f3,f4,f5,f6⟩:=bI t.o;go_wp2;go_region
   all_goals
    go_wp2;refine bR (.tuple #[.agg #[.string ⟨#[]⟩,.bool false,.int .i64 0,.slice none 0 0,.slice none 0 0,.slice none 0 0,.slice none 0 0],.int .i64 (p.bad),.int .i64 (p.place)]) ?_;rw[HV.o];refine⟨_,rfl,⟨_,_,_,_,rfl,EX _ _⟩,?_⟩
    first
     |exact(((((((r.o.setCell (lR _) _).setCell (lR _) _).setCell (lR _) _).setCell (lR _) _).setCell (lR _) _).setCell (lR _) _).setCell (lR _) _).drew
     |exact(((((((r.o.drew.setCell (lR _) _).setCell (lR _) _).setCell (lR _) _).setCell (lR _) _).setCell (lR _) _).setCell (lR _) _).setCell (lR _) _)
  have d1:(p.bad==0)=true:=bQ.2 hb;have HRI:=aA (rY out _ _ _ _ _ I.o);unfold aP at HRI;by_cases f:fL out=0
  case pos=>
   have HV:Hid (uO out (wL S out p)=(out,0,0)):=aA (by unfold wL;rw[iN (fun h=>h.2 f)];exact iN (fun h=>h hb));rw[f] at HRI;rw[hb] at c3;have HBD:=aA hb;clear hb f d1;go_wp2_with fail;refine HRI.o.mono ?_;rintro e Y ⟨rfl,hb_⟩;obtain⟨HP7,HO7,B7,BO7,HB7⟩:=gC (C.o.on hb_) (I.o.aCT (aJ hb_)) (aE t.o hb_) (aE x.o hb_) (aC r.o hb_);exact QAF
  have HV:Hid (uO out (wL S out p)=(mB,5,(S.size:Int))):=aA (by unfold wL;rw[iP ⟨hb,f⟩];unfold eO;rw[iP hb];rfl);have HWR:Hid ((eO 5 S.size p).bad=5/\(eO 5 S.size p).place=(S.size:Int)):=aA (by unfold eO;rw[iP hb];exact⟨rfl,rfl⟩);have HWA:=aA (fun g w h=>tS (L:=L) (p:=p) 5 S.size g w h);unfold eR at HWA;have d5:(fL out != 0)=true:=bne_iff_ne.2 f;rw[hb] at c3;clear hb f d1;generalize fL out=ro at *;generalize eO 5 S.size p=pw at *;go_wp2_with fail;refine HRI.o.mono ?_;rintro e Y ⟨rfl,hb_⟩;obtain⟨HP7,B7,HB7⟩:=aY (C.o.on hb_) (aE t.o hb_) (aC r.o hb_);exact QAy
 .have K:ZZ L p=dM L p:=iP hk;have dk:((aU L p).aCJ != 7)=true:=bne_iff_ne.2 hk;rw[K];clear K hk;generalize dM L p=a at *;go_enter func47,ntmps47;go_wp2_with fail;refine(n.o _ (T.o.on (aB _ _))).mono ?_;rintro e w1 ⟨v,rfl,i,hb_⟩;obtain⟨m,y,E⟩:=aY (aE (aK w (.cells vZ 38) _ rfl) hb_) (aC (aB w (.cells vZ 38)) hb_) i;obtain⟨la,lc,rfl,ab⟩:=i.slice;clear i hb_ n;have af:=aD m.o;have J:Hid (PW L (w1.alloc (.cells #[.slice la L.length lc,.int .i64 0,.int .i64 0,.int .i64 0,.int .i64 0] 155)) w1.heap.size ⟨0,0,0,0⟩):=aA ⟨la,lc,aK _ _ _ rfl,((E.o.inb gX).on gX (aB _ _)).more gX (fun b hb=>hb.2)⟩;have z:=qB y (aB w1 (.cells #[.slice la L.length lc,.int .i64 0,.int .i64 0,.int .i64 0,.int .i64 0] 155));go_wp2_with fail;refine(D.o _ _ J.o).mono ?_;rintro e j ⟨vt,vr,vk,vo,rfl,c,M,k_⟩;obtain⟨ta,tc,rfl,_⟩:=c.2.2.1.slice;obtain⟨ra,rc,rfl,_⟩:=c.2.2.2.1.slice;obtain⟨ka,kc,rfl,_⟩:=c.2.2.2.2.1.slice;obtain⟨oa,oc,rfl,_⟩:=c.2.2.2.2.2.slice;have s:=aA (aF (aE m.o (aB w1 (.cells #[.slice la L.length lc,.int .i64 0,.int .i64 0,.int .i64 0,.int .i64 0] 155))) k_ qo);have F:=aA (z.o.trans (k_.below (fun k hk=>⟨lL hk z.o.size,qo⟩)));have A:=aA M;have H:=aA (c.more (ok':=fun b=>w.heap.size<b/\b≠w1.heap.size) (fun b hb=>by have h9:(w1.alloc _).heap.size<=b:=hb;rw[World.size_alloc] at h9;exact⟨by show w.heap.size<b;omega,by show b≠w1.heap.size;omega⟩));have ag:=aD s.o;have ad:=A.o.lt;clear c M k_ D J z m y E;have B:=aA (A.o.on (aB j (.cells (kH out ta tc ra rc ka kc oa oc) 38)));go_wp2_with fail
  refine(G.o _ _ B.o).mono ?_;rintro e w5 ⟨rfl,hb_⟩;obtain⟨C,I,t,x,r⟩:=gC (B.o.on hb_) ((H.o.aCT (aJ (aB j (.cells (kH out ta tc ra rc ka kc oa oc) 38)))).aCT (aJ hb_)) (aE (aE s.o (aB j (.cells (kH out ta tc ra rc ka kc oa oc) 38))) hb_) (aE (aK j (.cells (kH out ta tc ra rc ka kc oa oc) 38) _ rfl) hb_) (aC (aC F.o (aB j (.cells (kH out ta tc ra rc ka kc oa oc) 38))) hb_);clear hb_ G B A H s F;go_wp2_with fail;refine(V.o _ _ C.o).mono ?_;rintro e w6 ⟨rfl,h_,k_⟩;have ak:=aD t.o;have aj:=aD x.o;have N:=aA (r.o.trans (k_.below (fun k hk=>⟨lL hk r.o.size,qo⟩)));have Q:=qS t k_ qo;have R:=qS x k_ qo;have aa:=aA (I.o.aCT (k_.mono fun b _ hb=>hb.2));have O:=aA h_;clear h_ k_ V C I t x r;obtain⟨A_,c_,c0,c1,c2,c3,c4,_⟩:=O.o.cells;obtain⟨⟨y0,y1,y2,y3,y4,y5,y6⟩,_⟩:=bI R.o;have ae:=O.o.lt;have hyl:=aD R.o;by_cases hb:a.bad=0
  case neg=>
   have HV:Hid (uO out (wL S out a)=(mB,a.bad,a.place)):=aA (by unfold wL;rw[iN (fun h=>hb h.1)];exact iP hb);have d1:(a.bad==0)=false:=bN.2 hb;have d2:(a.bad != 0)=true:=bne_iff_ne.2 hb;clear hb;obtain⟨⟨x0,x1,x2,x3,x4,x5,x6⟩,f0,f1,f2,f3,f4,f5,f6⟩:=bI Q.o;go_wp2;go_region
   all_goals
    go_wp2;refine bR (.tuple #[.agg #[.string ⟨#[]⟩,.bool false,.int .i64 0,.slice none 0 0,.slice none 0 0,.slice none 0 0,.slice none 0 0],.int .i64 (a.bad),.int .i64 (a.place)]) ?_;rw[HV.o];refine⟨_,rfl,⟨_,_,_,_,rfl,EX _ _⟩,?_⟩
    first
     |exact(((((((N.o.setCell (lR _) _).setCell (lR _) _).setCell (lR _) _).setCell (lR _) _).setCell (lR _) _).setCell (lR _) _).setCell (lR _) _).drew
     |exact(((((((N.o.drew.setCell (lR _) _).setCell (lR _) _).setCell (lR _) _).setCell (lR _) _).setCell (lR _) _).setCell (lR _) _).setCell (lR _) _)
  have d1:(a.bad==0)=true:=bQ.2 hb;have HRI:=aA (rY out _ _ _ _ _ aa.o);unfold aP at HRI;by_cases f:fL out=0
  case pos=>
   have HV:Hid (uO out (wL S out a)=(out,0,0)):=aA (by unfold wL;rw[iN (fun h=>h.2 f)];exact iN (fun h=>h hb));rw[f] at HRI;rw[hb] at c3;have HBD:=aA hb;clear hb f d1;go_wp2_with fail;refine HRI.o.mono ?_;rintro e Y ⟨rfl,hb_⟩;obtain⟨HP7,HO7,B7,BO7,HB7⟩:=gC (O.o.on hb_) (aa.o.aCT (aJ hb_)) (aE Q.o hb_) (aE R.o hb_) (aC N.o hb_);exact QAF
  have HV:Hid (uO out (wL S out a)=(mB,5,(S.size:Int))):=aA (by unfold wL;rw[iP ⟨hb,f⟩];unfold eO;rw[iP hb];rfl);have HWR:Hid ((eO 5 S.size a).bad=5/\(eO 5 S.size a).place=(S.size:Int)):=aA (by unfold eO;rw[iP hb];exact⟨rfl,rfl⟩);have HWA:=aA (fun g w h=>tS (L:=L) (p:=a) 5 S.size g w h);unfold eR at HWA;have d5:(fL out != 0)=true:=bne_iff_ne.2 f;rw[hb] at c3;clear hb f d1;generalize fL out=ro at *;generalize eO 5 S.size a=pw at *;go_wp2_with fail;refine HRI.o.mono ?_;rintro e Y ⟨rfl,hb_⟩;obtain⟨HP7,B7,HB7⟩:=aY (O.o.on hb_) (aE Q.o hb_) (aC N.o hb_);exact QAy
end Go.Proofs.YtgoanbpcdhmfkaaGreatDoor
