/- Lemmas. -/
import Derived.Test.YthcgdgkpgdjahaaGreatDoorMao
namespace Go.Proofs.YthcgdgkpgdjahaaGreatDoor
open Go.RowKit
set_option linter.unusedVariables false
set_option linter.unusedSimpArgs false
set_option maxHeartbeats 16000000
open _root_.Go.Proofs.Tryz
set_option maxRecDepth 20000
def LK(t:Ta)(w:World)(e:Ending)(w':World):Prop:=∃v,e=.returned v/\oJ w' (fun b=>w.heap.size<=b) v t/\Below w.heap.size w w'
theorem BW{ok:nP}(vt:Value)(t:Ta)(w:World)(h:oJ w ok vt t):Calls prog 194 #[vt] w (LK t w):=by
 obtain⟨ta,tc,rfl,ak⟩:=h.slice;have HS:=aA h;clear h;go_enter func194,ntmps194;go_wp2;go_loopw [3,5,11] (fun v _ i wr=>∃(k G:Nat) (R:oD) (S:Nat),k<=t.length/\i=.int .i64 k/\v=.slice R G S/\Hid (G=k)/\Hid (aM (rows (rows sB)) 1 264 wr w.heap.size (fun b=>w.heap.size<=b) (.slice R G S) (t.take k))/\Hid (Below w.heap.size w wr)) (fun _ _ i _=>t.length - (intOf i).toNat)
 case atStart=>exact Uk
 case round=>
  obtain⟨d,rfl⟩:∃d:World,d=wr:=⟨_,rfl⟩;obtain⟨k,G,R,S,hk,rfl,rfl,ae,F,E⟩:=hrel;by_cases Z:k<t.length
  .have aj:(k:Int)<(t.length:Int):=qo;obtain⟨b,off,r,rfl,_,ao,⟨vx,rfl,V⟩,C⟩:=aH.at aS (aH.on aS HS.o E.o) Z qe;obtain⟨xa,xc,rfl,al⟩:=V.slice;have x0:=C 0 _ rfl;rw[Nat.add_zero,Nat.mul_one] at x0;have ag:Hid (t.take k++[t[k]]=t.take (k+1)):=aA (List.take_succ_eq_append_getElem Z).symm;have ab:=aA (show (t.take k).length=k by rw[List.length_take];omega);have HX:=aA V;clear C V;generalize t[k]=l at *;go_wp2;clear x0;go_loopw [6,8,17] (fun v _ i wr=>∃(j m2:Nat) (z:oD) (A:Nat),j<=l.length/\i=.int .i64 j/\v=.slice z m2 A/\Hid (m2=j)/\Hid (aM (rows sB) 1 311 wr d.heap.size (fun b=>d.heap.size<=b) (.slice z m2 A) (l.take j))/\Hid (Below d.heap.size d wr)) (fun _ _ i _=>l.length - (intOf i).toNat)
   case atStart=>exact Uk
   case round=>
    obtain⟨j,m2,z,A,hj,rfl,rfl,ad,n,o⟩:=hrel;by_cases Y:j<l.length
    .have ai:(j:Int)<(l.length:Int):=qo;obtain⟨b2,ar,r2,rfl,_,aq,⟨vy,rfl,W⟩,C⟩:=aH.at dO (aH.on dO HX.o o.o) Y qe;obtain⟨ya,yc,rfl,an⟩:=W.slice;have y0:=C 0 _ rfl;rw[Nat.add_zero,Nat.mul_one] at y0;have af:Hid (l.take j++[l[j]]=l.take (j+1)):=aA (List.take_succ_eq_append_getElem Y).symm;have aa:=aA (show (l.take j).length=j by rw[List.length_take];omega);have K:=aA (YU _ _ wr W);clear C W;generalize l[j]=x at *;have ah:=aA an;unfold bV at K;have O:=aA n.o.lt;have Q:=aA o.o.size;go_wp2_with fail;refine K.o.mono ?_;rintro e H ⟨v,rfl,c,U⟩;obtain⟨va,vc,rfl⟩:=c.slice;have s:=aA ((eO (enc:=Cy) (good:=uF) (ok':=fun b=>wr.heap.size<=b) c).sl ah.o (fun b=>wr.heap.size<=b) (fun b a _=>a) (fun b a _=>a) eV);obtain⟨X,g,P⟩:=aZ (aC o.o U) (aB H (.cells #[.slice va x.length vc] 311)) (aK H (.cells #[.slice va x.length vc] 311) H.heap.size qs);obtain⟨q,f,L⟩:=aZ ((n.o.on dO U).on dO g.o) (aC X.o g.o) (aH.inb eV (aH.on eV s.o g.o));clear K c U n s X y0;go_wp2_with (at_builtin;refine cC (base:=d.heap.size) aAa dO rfl (.tmp 21) (.tmp 24) rfl _ (l.take j) rfl q.o H.heap.size 1 _ _ _ x rfl P.o ⟨_,rfl,aH.more eV L.o (fun y m=>⟨lT Q.o m.1,m.2,fun e=>absurd (O.o y e.symm).2 (Nat.not_lt.2 m.1)⟩)⟩ (by rw[aa.o];omega) qo f.o.size ?_;intro l' D I c2 w9 B c T;have M:=aA B;have J:=aA (q.o.below f.o c (lR _) f.o.size);have N:=aA D.o;clear B c T D)
     have p:Hid (l'=l.take (j+1)):=aA (by rw[N.o,af.o]);go_roundw
     case rel=>exact⟨j+1,l'.length,I,c2,qo,by go_num,rfl,aA (by rw[p.o,List.length_take];omega),aA (by have h:=M.o;rw[<-p.o];exact h),J⟩
     case measure=>simp[intOf];omega
    .have ai:¬(j:Int)<(l.length:Int):=qo;obtain rfl:j=l.length:=qo;rw[List.take_of_length_le (lR _)] at n;have hm:=ad.o;subst hm;have s:=aA (n.o.sl al (fun b=>d.heap.size<=b) (fun b a _=>a) (fun b a _=>a) dO);obtain⟨O,Q,g,P⟩:=dH F.o.lt E.o.size (aB wr (.cells #[.slice z l.length A] 264)) (aK wr (.cells #[.slice z l.length A] 264) wr.heap.size qs);obtain⟨q,f,L⟩:=aZ ((F.o.on aS o.o).on aS g.o) (aC (aC E.o o.o) g.o) (aH.inb dO (aH.on dO s.o g.o));clear n s;go_wp2_with (at_builtin;refine cC (base:=w.heap.size) Ul aS rfl (.tmp 27) (.tmp 29) rfl _ (t.take k) rfl q.o wr.heap.size 1 _ _ _ l rfl P.o ⟨_,rfl,aH.more dO L.o (fun y m=>⟨lT Q.o m.1,m.2,fun e=>absurd (O.o y e.symm).2 (Nat.not_lt.2 m.1)⟩)⟩ (by rw[ab.o];omega) qo f.o.size ?_;intro l' D I c2 w9 B c T;have M:=aA B;have J:=aA (q.o.below f.o c (lR _) f.o.size);have N:=aA D.o;clear B c T D)
     have p:Hid (l'=t.take (k+1)):=aA (by rw[N.o,ag.o]);go_roundw
     case rel=>exact⟨k+1,l'.length,I,c2,qo,by go_num,rfl,aA (by rw[p.o,List.length_take];omega),aA (by have h:=M.o;rw[<-p.o];exact h),J⟩
     case measure=>simp[intOf];omega
  .have aj:¬(k:Int)<(t.length:Int):=qo;obtain rfl:k=t.length:=qo;rw[List.take_of_length_le (lR _)] at F;have hm:=ae.o;subst hm;go_wp2;go_returns;exact⟨_,rfl,F.o.sl ak _ (fun b a _=>a) (fun b a _=>a) aS,E.o⟩
theorem QCQ{p:Prop}(h:p:=by
 go_wp2;go_roundw
 case rel=>exact⟨k+1,qo,by go_num,HGN,HSN⟩
 case measure=>simp[intOf];omega):p:=h
def EB(lv:Nat)(ok:nP)(p:Po)(w:World)(e:Ending)(w':World):Prop:=∃vt vr vk vo,e=.returned (.agg #[.string p.id,.bool p.set,.int .i64 p.alg,vt,vr,vk,vo])/\fO lv w' (fun b=>ok b\/w.heap.size<=b) p vt vr vk vo/\Below w.heap.size w w'
def VS(lv:Nat):Prop:=∀(ok:nP) (p:Po) (vt vr vk vo:Value) (w:World),fO lv w ok p vt vr vk vo->Calls prog 146 #[.agg #[.string p.id,.bool p.set,.int .i64 p.alg,vt,vr,vk,vo]] w (EB lv ok p w)
theorem zD(lv:Nat)(IH:∀l,lv=l+1->VS l):VS lv:=by
 intro ok p vt vr vk vo w cu;have hp:=cu.inb;clear cu;obtain⟨ta,tc,rfl,_⟩:=hp.2.2.1.slice;obtain⟨ra,rc,rfl,_⟩:=hp.2.2.2.1.slice;obtain⟨ka,kc,rfl,ea⟩:=hp.2.2.2.2.1.slice;obtain⟨oa,oc,rfl,_⟩:=hp.2.2.2.2.2.slice;obtain⟨O1,bt⟩:∃O:Obj,O=.cells (kR p ta tc ra rc ka kc oa oc) 60:=⟨_,rfl⟩;obtain⟨O2,cr⟩:∃O:Obj,O=.cells wN 60:=⟨_,rfl⟩;obtain⟨W0,bf⟩:=xE ((w.alloc O1).alloc O2);have bo:=aA (bf▸LB w O1 O2:Kq w w.heap.size (w.heap.size+1) O1 O2 W0);have fj:=aA bo.o.1;have fp:Hid (W0.heap.size=w.heap.size+1+1):=aA (by rw[bf];simp);have bg:Hid (∀w',Kq w w.heap.size (w.heap.size+1) O1 O2 w'->(w'.cell? ⟨w.heap.size,0,none⟩=some (.string p.id)/\w'.cell? ⟨w.heap.size,1,none⟩=some (.bool p.set)/\w'.cell? ⟨w.heap.size,2,none⟩=some (.int .i64 p.alg)/\w'.cell? ⟨w.heap.size,3,none⟩=some (.slice ta p.aDY.length tc)/\w'.cell? ⟨w.heap.size,4,none⟩=some (.slice ra p.aDR.length rc)/\w'.cell? ⟨w.heap.size,5,none⟩=some (.slice ka p.aD2.length kc)/\w'.cell? ⟨w.heap.size,6,none⟩=some (.slice oa p.aD4.length oc))/\w'.frozen? ⟨w.heap.size,3,none⟩=false/\w'.frozen? ⟨w.heap.size,6,none⟩=false/\w.heap.size<w'.heap.size):=aA (fun w' t=>by
  have h:=t.2.1;rw[bt] at h;obtain⟨q,f0,f1,f2,f3,f4,f5,f6⟩:=bI h;exact⟨q,f3,f6,aD h⟩)
 have cj:Hid (∀w',Kq w w.heap.size (w.heap.size+1) O1 O2 w'->w.heap.size+1+1<=w'.heap.size):=aA (fun w' t=>qA (aD t.2.2));have HT:Hid (∀w',Kq w w.heap.size (w.heap.size+1) O1 O2 w'->Calls prog 194 #[.slice ta p.aDY.length tc] w' (LK p.aDY w')):=aA (fun w' t=>BW _ _ _ (aH.on aS hp.2.2.1 t.1));have HO:Hid (∀w',Kq w w.heap.size (w.heap.size+1) O1 O2 w'->Calls prog 195 #[.slice oa p.aD4.length oc] w' (bV kE 3 180 _ p.aD4 w')):=aA (fun w' t=>GV _ _ _ (aH.on aO hp.2.2.2.2.2 t.1));have eb:p.aD4.length<=1000000:=by obtain⟨_,_,_,h4⟩:=hp.2.2.2.2.2.slice;exact h4
 have cv:p.aDR.length<=1000000:=by obtain⟨_,_,_,h4⟩:=hp.2.2.2.1.slice;exact h4
 obtain⟨HP,c1,fl,fm,dn⟩:=gJ hp IH bt cr bf;unfold LK at HT;unfold bV at HO;clear hp IH bf;subst bt cr;go_enter func146,ntmps146;go_upto_region 1 with (fail)
 rw[<-dn.o];go_cut [2] from 7 to 14 (fun v w'=>∃(Z:oD) (aa:Nat) (W:oD) (Y:Nat),v=.pointer (some ⟨w.heap.size+1,0,none⟩)/\Hid (w'.heap[w.heap.size]? =some (.cells (kR p Z aa ra rc ka kc W Y) 60 (0,0)))/\Hid (w'.heap[w.heap.size+1]? =some (.cells wN 60 (0,0)))/\Hid (oJ w' (fun b=>w.heap.size+1+1<=b) (.slice Z p.aDY.length aa) p.aDY)/\Hid (aH kE w' (fun b=>w.heap.size+1+1<=b) (.slice W p.aD4.length Y) p.aD4)/\Hid (Below w.heap.size w w'))
 case first=>
  obtain⟨⟨s0,s1,s2,s3,s4,s5,s6⟩,h3,h6,en⟩:=bg.o _ bo.o;have da:=aA (Kq.on bo.o (Below.refl _ _).drew);go_region_law
   ((first
     |(go_simp;go_at_call 194;refine(HT.o _ (Hid.o (p:=Kq w w.heap.size (w.heap.size+1) _ _ _) (by assumption))).mono ?_;rintro e wa ⟨va,rfl,al,D⟩;obtain⟨Z,aa,rfl,_⟩:=al.slice;have a6:=aA (aH.more (ok':=fun b=>w.heap.size+1+1<=b) aS al (fun b a=>lT (cj.o _ (Hid.o (p:=Kq w w.heap.size (w.heap.size+1) _ _ _) (by assumption))) a));(first|(have df:=aA (aH.on aO az.o D))|skip);have HKa:=aA (Kq.on (Hid.o (p:=Kq w w.heap.size (w.heap.size+1) _ _ _) (by assumption)) D);obtain⟨⟨e1,e2,e3,e4,e5,e6,e7⟩,dq,dr,eo⟩:=bg.o _ HKa.o;clear D al)
     |(go_simp;go_at_call 195;refine(HO.o _ (Hid.o (p:=Kq w w.heap.size (w.heap.size+1) _ _ _) (by assumption))).mono ?_;rintro e wc ⟨vc,rfl,aj,ag⟩;obtain⟨W,Y,rfl⟩:=aj.slice;have az:=aA ((eO (enc:=FA) (good:=yO) (ok':=fun b=>w.heap.size+1+1<=b) (aM.less aj (cj.o _ (Hid.o (p:=Kq w w.heap.size (w.heap.size+1) _ _ _) (by assumption))))).sl eb (fun b=>w.heap.size+1+1<=b) (fun b a _=>a) (fun b a _=>a) aO);(first|(have dm:=aA (aH.on aS a6.o ag))|skip);have HKc:=aA (Kq.on (Hid.o (p:=Kq w w.heap.size (w.heap.size+1) _ _ _) (by assumption)) ag);obtain⟨⟨e8,e9,fa,fb,fc,fe,ff⟩,dt,du,ep⟩:=bg.o _ HKc.o;clear ag aj)))
  all_goals
   go_wp2;go_meet;have hA:¬(w.heap.size+1+1<=w.heap.size):=qo;refine⟨Z,aa,W,Y,rfl,aA ?_,aA ?_,aA ?_,aA ?_,aA ?_⟩
   .first
     |exact aG (aG HKc.o.2.1 3 _) 6 _
     |exact aG (aG HKc.o.2.1 6 _) 3 _
     |exact aG (aG HKa.o.2.1 3 _) 6 _
     |exact aG (aG HKa.o.2.1 6 _) 3 _
   .first
     |exact bE (bE HKc.o.2.2 qo) qo
     |exact bE (bE HKa.o.2.2 qo) qo
   .repeat (refine aH.aDW aS ?_ (fI hA))
    first|exact dm.o|exact a6.o
   .repeat (refine aH.aDW aO ?_ (fI hA))
    first|exact az.o|exact df.o
   .exact QCG
 case rest=>
  obtain⟨Z,aa,W,Y,hv,A1,R1,a6,az,an⟩:=hcut;subst hv;have bq:=aA (aD R1.o);obtain⟨d,cx⟩:=xE wc;rw[<-cx] at A1 R1 a6 az an bq ⊢;clear cx;have ek:w.heap.size+1<d.heap.size:=bq.o;have fo:=aA (aH.inb bM (aH.on bM HP.o.2.2.2.1 an.o));have fk:=aA (aH.inb (bC lv) (aH.on (bC lv) HP.o.2.2.2.2.1 an.o));have cp:Hid (∀w',Below d.heap.size d w'->Calls prog 196 #[.slice ra p.aDR.length rc] w' (bV yP 5 269 (fun b=>ok b/\b<w.heap.size) p.aDR w')):=aA (fun w' a=>YW _ _ _ (aH.on bM HP.o.2.2.2.1 (aC an.o a)));have cg:Hid (∀w',Below d.heap.size d w'->Calls prog 197 #[.slice ka p.aD2.length kc] w' (bV (qR lv) 7 60 (fun b=>ok b/\b<w.heap.size) p.aD2 w')):=aA (fun w' a=>YX _ _ _ (aH.on (bC lv) HP.o.2.2.2.2.1 (aC an.o a)));have bh:Hid (∀w',Below d.heap.size d w'->(w'.cell? ⟨w.heap.size,0,none⟩=some (.string p.id)/\w'.cell? ⟨w.heap.size,1,none⟩=some (.bool p.set)/\w'.cell? ⟨w.heap.size,2,none⟩=some (.int .i64 p.alg)/\w'.cell? ⟨w.heap.size,3,none⟩=some (.slice Z p.aDY.length aa)/\w'.cell? ⟨w.heap.size,4,none⟩=some (.slice ra p.aDR.length rc)/\w'.cell? ⟨w.heap.size,5,none⟩=some (.slice ka p.aD2.length kc)/\w'.cell? ⟨w.heap.size,6,none⟩=some (.slice W p.aD4.length Y))/\w'.frozen? ⟨w.heap.size,4,none⟩=false/\w'.frozen? ⟨w.heap.size,5,none⟩=false/\w.heap.size<w'.heap.size):=aA (fun w' a=>by
   obtain⟨q,f0,f1,f2,f3,f4,f5,f6⟩:=bI (aE A1.o a);exact⟨q,f4,f5,aD (aE A1.o a)⟩)
  unfold bV at cp cg;have c6:=aA (Below.refl d.heap.size d);go_upto_region 2 with (fail)
  go_cut [2] from 15 to 22 (fun v w'=>∃(F:oD) (x:Nat) (E:oD) (z:Nat),v=.pointer (some ⟨w.heap.size+1,0,none⟩)/\Hid (w'.heap[w.heap.size]? =some (.cells (kR p Z aa F x E z W Y) 60 (0,0)))/\Hid (w'.heap[w.heap.size+1]? =some (.cells wN 60 (0,0)))/\Hid (aM yP 5 269 w' d.heap.size (fun b=>ok b/\b<w.heap.size) (.slice F p.aDR.length x) p.aDR)/\Hid (aM (qR lv) 7 60 w' d.heap.size (fun b=>ok b/\b<w.heap.size) (.slice E p.aD2.length z) p.aD2)/\Hid (aN (fun b=>b≠w.heap.size) d w'))
  case first=>
   obtain⟨⟨s0,s1,s2,s3,s4,s5,s6⟩,h3,h6,en⟩:=bh.o _ c6.o;have da:=aA (Below.refl d.heap.size d).drew;go_region_law
    ((first
      |(go_simp;go_at_call 196;refine(cp.o _ (Hid.o (p:=Below d.heap.size d _) (by assumption))).mono ?_;rintro e wa ⟨va,rfl,A,D⟩;obtain⟨F,x,rfl⟩:=A.slice;have G:=aA (aM.less A (Hid.o (p:=Below d.heap.size d _) (by assumption)).size);(first|(have db:=aA (aM.on (bC lv) R.o D))|skip);have HKa:=aA (aC (Hid.o (p:=Below d.heap.size d _) (by assumption)) D);obtain⟨⟨e1,e2,e3,e4,e5,e6,e7⟩,dq,dr,eo⟩:=bh.o _ HKa.o;clear D A)
      |(go_simp;go_at_call 197;refine(cg.o _ (Hid.o (p:=Below d.heap.size d _) (by assumption))).mono ?_;rintro e wb ⟨vb,rfl,aj,ag⟩;obtain⟨E,z,rfl⟩:=aj.slice;have R:=aA (aM.less aj (Hid.o (p:=Below d.heap.size d _) (by assumption)).size);(first|(have dj:=aA (aM.on bM G.o ag))|skip);have ay:=aA (aC (Hid.o (p:=Below d.heap.size d _) (by assumption)) ag);obtain⟨⟨e8,e9,fa,fb,fc,fe,ff⟩,dt,du,ep⟩:=bh.o _ ay.o;clear ag aj)))
   all_goals
    go_wp2;go_meet;have hA:¬(ok w.heap.size/\w.heap.size<w.heap.size):=fun h=>by omega
    have fr:w.heap.size<d.heap.size:=qA bq.o;refine⟨F,x,E,z,rfl,aA ?_,aA ?_,aA ?_,aA ?_,aA ?_⟩
    .first
      |exact aG (aG (aE A1.o ay.o) 4 _) 5 _
      |exact aG (aG (aE A1.o ay.o) 5 _) 4 _
      |exact aG (aG (aE A1.o HKa.o) 4 _) 5 _
      |exact aG (aG (aE A1.o HKa.o) 5 _) 4 _
    .first
      |exact bE (bE (aE R1.o ay.o) qo) qo
      |exact bE (bE (aE R1.o HKa.o) qo) qo
    .repeat (refine aM.off bM ?_ hA (fun h=>by obtain⟨cs,ho,_⟩:=(G.o);have:=(ho.lt _ h).1;omega))
     first|exact dj.o|exact G.o
    .repeat (refine aM.off (bC lv) ?_ hA (fun h=>by obtain⟨cs,ho,_⟩:=(R.o);have:=(ho.lt _ h).1;omega))
     first|exact R.o|exact db.o
    .refine aN.trans ?_ ((aI _).trans (aI _))
     first|exact aJ ay.o|exact aJ HKa.o
  case rest=>
   obtain⟨F,x,E,z,hv,A2,R2,G,R,bc⟩:=hcut;subst hv;obtain⟨V,cy⟩:=xE wc;rw[<-cy] at A2 R2 G R bc ⊢;clear cy;have aq:=aA bc.o.size;have fq:=aA ek;obtain⟨U,dp⟩:∃U:Option Nat,U=(Value.slice F p.aDR.length x).ownBlock:=⟨_,rfl⟩;have ae:=aA dp;have cd:=aA (show ∀wr,aN (fun b=>some b≠U) V wr->wr.heap[w.heap.size]? =_ from fun wr h=>aF A2.o h (fun e=>qA ((G.o.lt _ (ae.o▸e.symm)).1)));obtain⟨⟨s0,s1,s2,s3,s4,s5,s6⟩,_⟩:=bI A2.o;have sz:=aD A2.o;go_wp2;clear s0 s1 s2 s3 s4 s5 s6 sz;go_loopw [3,4,26] (fun _ _ i wr=>∃k:Nat,k<=p.aDR.length/\i=.int .i64 k/\Hid (aM yP 5 269 wr d.heap.size (fun b=>(ok b/\b<w.heap.size)\/V.heap.size<=b) (.slice F p.aDR.length x) p.aDR)/\Hid (aN (fun b=>some b≠U) V wr)) (fun _ _ i _=>p.aDR.length - (intOf i).toNat)
   case atStart=>exact⟨0,Nat.zero_le _,rfl,aA (G.o.aEC bM (fun b a=> .inl a)),aA (aN.refl _ _)⟩
   case round=>
    obtain⟨k,t,rfl,HG,B⟩:=hrel;by_cases au:k<p.aDR.length
    .have a8:(k:Int)<(p.aDR.length:Int):=qo;obtain⟨g,r0,e0,ds,m,be,a7,b7⟩:=HG.o.at bM au qe;subst e0;obtain⟨fh,ft,fg,rfl,y⟩:=be;obtain⟨K,L,rfl,_⟩:=y.2.1.slice;obtain⟨M,N,rfl,el⟩:=y.2.2.1.slice;obtain⟨P,Q,rfl,er⟩:=y.2.2.2.slice;obtain⟨y0,y1,y2,y3,y4⟩:=KP a7;rw[Nat.add_zero] at y0;have de:Hid (U=some g):=aA ae.o;have ax:Hid (aM yP 5 269 wr d.heap.size (fun b=>(ok b/\b<w.heap.size)\/V.heap.size<=b) (.slice (some ⟨g,0,none⟩) p.aDR.length x) p.aDR):=aA HG.o;have fs:p.aDR.length<=1000000:=cv;have af:=aA y;have a1:=aA (fun (wq:World) (a:Below wr.heap.size wr wq) (vt vc vo:Value)=>Zw (vt:=vt) (vc:=vc) (vo:=vo) (ax.o.on bM a) au);clear a7 y HG;generalize p.aDR[k]=r at *;obtain⟨j,J⟩:=xE (wr.alloc (.cells #[.string r.id,.bool r.aEp,.slice K r.aDY.length L,.slice M r.cond.length N,.slice P r.aD4.length Q] 269));have ai:Below wr.heap.size wr j:=by rw[J];exact aB _ _
     have X:Hid (j.heap[wr.heap.size]? =some (.cells #[.string r.id,.bool r.aEp,.slice K r.aDY.length L,.slice M r.cond.length N,.slice P r.aD4.length Q] 269 (0,0))):=aA (by rw[J];exact aK _ _ _ rfl);have br:=aA J;have A:¬w.heap.size=g:=qo;have ak:¬wr.heap.size=g:=qo;have AV:=aA (aE (cd.o wr B.o) ai);have f:=aA ai;have o:Hid (∀w':World,w'.heap[w.heap.size]? =j.heap[w.heap.size]? ->w'.heap[wr.heap.size]? =j.heap[wr.heap.size]? ->w'.cell? ⟨w.heap.size,4,none⟩=some (.slice (some ⟨g,0,none⟩) p.aDR.length x)/\w'.cell? ⟨wr.heap.size,2,none⟩=some (.slice K r.aDY.length L)/\w'.cell? ⟨wr.heap.size,3,none⟩=some (.slice M r.cond.length N)/\w'.cell? ⟨wr.heap.size,4,none⟩=some (.slice P r.aD4.length Q)):=aA (fun w' h1 h2=>by
      rw[AV.o] at h1;rw[X.o] at h2;exact⟨aQ h1 4 _ rfl,aQ h2 2 _ rfl,aQ h2 3 _ rfl,aQ h2 4 _ rfl⟩)
     have zA:=aD AV.o;have zX:=aD X.o;have c:Hid (Below j.heap.size j j.drew):=aA (Below.refl _ _).drew;have bm:=aA (fun w' (a:Below j.heap.size j w')=>BW _ r.aDY w' (aH.on aS af.o.2.1 (aC f.o a)));have bj:=aA (fun w' (a:Below j.heap.size j w')=>YV _ r.cond w' (aH.on dQ af.o.2.2.1 (aC f.o a)));have bk:=aA (fun w' (a:Below j.heap.size j w')=>GV _ r.aD4 w' (aH.on aO af.o.2.2.2 (aC f.o a)));unfold LK at bm;unfold bV at bj bk;have cw:=o.o j rfl rfl;have H:=aA zA;have I:=aA zX;clear ai J;go_upto_region 6 with (fail)
     rw[<-br.o];go_region_held3 (fun w'=>w'.cell? ⟨w.heap.size,4,none⟩=some (.slice (some ⟨g,0,none⟩) p.aDR.length x)/\w'.cell? ⟨wr.heap.size,2,none⟩=some (.slice K r.aDY.length L)/\w'.cell? ⟨wr.heap.size,3,none⟩=some (.slice M r.cond.length N)/\w'.cell? ⟨wr.heap.size,4,none⟩=some (.slice P r.aD4.length Q))
      (first|assumption |exact o.o _ (c.o.block _ H.o) (c.o.block _ I.o)|exact o.o _ ((Below.heap_setCell _ _ _ _ A).trans (c.o.block _ H.o)) ((Below.heap_setCell _ _ _ _ ak).trans (c.o.block _ I.o))|exact o.o _ ((Below.heap_setCell _ _ _ _ A).trans ((Below.heap_setCell _ _ _ _ A).trans (c.o.block _ H.o))) ((Below.heap_setCell _ _ _ _ ak).trans ((Below.heap_setCell _ _ _ _ ak).trans (c.o.block _ I.o)))|exact o.o _ ((Below.heap_setCell _ _ _ _ A).trans ((Below.heap_setCell _ _ _ _ A).trans ((Below.heap_setCell _ _ _ _ A).trans (c.o.block _ H.o)))) ((Below.heap_setCell _ _ _ _ ak).trans ((Below.heap_setCell _ _ _ _ ak).trans ((Below.heap_setCell _ _ _ _ ak).trans (c.o.block _ I.o)))))
      ((first
        |(go_at_call 194;refine(bm.o _ c.o).mono ?_;rintro e wa ⟨va,rfl,al,D⟩;obtain⟨cb,cc,rfl,_⟩:=al.slice;have ar:=aA (aH.more (ok':=fun b=>j.heap.size<=b) aS al (fun b a=>lT c.o.size a));replace c:=qB c D;have hS:=o.o _ (c.o.block _ H.o) (c.o.block _ I.o);clear D al)
        |(go_at_call 198;refine(bj.o _ c.o).mono ?_;rintro e wn ⟨vn,rfl,b8,bu⟩;obtain⟨ev,ew,rfl⟩:=b8.slice;have bb:=aA ((eO (enc:=Cz) (good:=oY) (ok':=fun b=>j.heap.size<=b) (aM.less b8 c.o.size)).sl el (fun b=>j.heap.size<=b) (fun b a _=>a) (fun b a _=>a) dQ);replace ar:=aA (aH.on aS ar.o bu);replace c:=qB c bu;have hS:=o.o _ (c.o.block _ H.o) (c.o.block _ I.o);clear bu b8)
        |(go_at_call 195;refine(bk.o _ c.o).mono ?_;rintro e wo ⟨vo,rfl,n,ah⟩;obtain⟨b9,ca,rfl⟩:=n.slice;have cl:=aA ((eO (enc:=FA) (good:=yO) (ok':=fun b=>j.heap.size<=b) (aM.less n c.o.size)).sl er (fun b=>j.heap.size<=b) (fun b a _=>a) (fun b a _=>a) aO);replace ar:=aA (aH.on aS ar.o ah);replace bb:=aA (aH.on dQ bb.o ah);replace c:=qB c ah;have hS:=o.o _ (c.o.block _ H.o) (c.o.block _ I.o);have s:=xJ b7 f.o m c.o;have dz:=lL (lL m f.o.size) c.o.size;have q2:=((c.o.cell (p:=⟨g,k * 5+2,none⟩) (lL m f.o.size)).trans (f.o.cell (p:=⟨g,k * 5+2,none⟩) m)).trans y2;have q3:=((c.o.cell (p:=⟨g,k * 5+3,none⟩) (lL m f.o.size)).trans (f.o.cell (p:=⟨g,k * 5+3,none⟩) m)).trans y3;have q4:=((c.o.cell (p:=⟨g,k * 5+4,none⟩) (lL m f.o.size)).trans (f.o.cell (p:=⟨g,k * 5+4,none⟩) m)).trans y4;have bw:=s (k * 5+2);have bx:=s (k * 5+3);have bz:=s (k * 5+4);clear ah n)))
     all_goals
      obtain⟨aw,bs,bn⟩:=aZ (aC f.o c.o) B.o.size m;have bd:∀b,j.heap.size<=b/\b<wo.heap.size->((ok b/\b<w.heap.size)\/V.heap.size<=b)/\b<wo.heap.size/\b≠g:=fun b a=>by
       have h1:=f.o.size;have h2:=bs.o;have h3:=bn.o;exact⟨.inr qo,a.2,qo⟩
      have HGN:=aA (a1.o wo aw.o _ _ _ (aH.more aS (aH.inb aS ar.o) bd) (aH.more dQ (aH.inb dQ bb.o) bd) (aH.more aO (aH.inb aO cl.o) bd));have n:¬(some g≠U):=fun h=>h de.o.symm
      have HSN:=aA ((((B.o.trans (aJ aw.o)).trans (fI (i:=k * 5+2) (v:= .slice cb r.aDY.length cc) n)).trans (fI (i:=k * 5+3) (v:= .slice ev r.cond.length ew) n)).trans (fI (i:=k * 5+4) (v:= .slice b9 r.aD4.length ca) n));clear bd n ar bb cl hS q2 q3 q4 s bw bx bz y0 y1 y2 y3 y4 c bm bj bk o X AV a1 af ax;exact QCQ
    .have a8:¬(k:Int)<(p.aDR.length:Int):=qo;obtain⟨C,cz⟩:=xE wr;rw[<-cz] at HG B ⊢;clear cz;have dh:=aA (HG.o.aEK bM cv);obtain⟨T,cq⟩:∃T:Option Nat,T=(Value.slice E p.aD2.length z).ownBlock:=⟨_,rfl⟩;have ab:=aA cq;have ck:Hid (∀b,T=some b->some b≠U):=aA (fun b a e=>by
      rcases vX R.o G.o qe with h|h
      .rw[<-ab.o,a] at h;cases h
      .exact h (by rw[<-ab.o,<-ae.o,a];exact e))
     have ad:Hid (∀b,T=some b->d.heap.size<=b/\b<V.heap.size):=aA (fun b a=>R.o.lt b (ab.o▸a));have ao:Hid (∀b,U=some b->d.heap.size<=b/\b<V.heap.size):=aA (fun b a=>G.o.lt b (ae.o▸a));have dc:=aA (R.o.stays (bC lv) B.o (fun b a=>ck.o b (by rw[ab.o];exact a)) (fun b a _ e=>by have h1:=(ao.o b e.symm).1;have h2:=a.2;omega));have A3:=aA (cd.o C B.o);have R3:=qS R2 B.o (fun e=>qA ((ao.o _ e.symm).1));have bp:=aA B.o.size;have cf:=aA (show ∀wr,aN (fun b=>some b≠T) C wr->wr.heap[w.heap.size]? =_ from fun wr h=>aF A3.o h (fun e=>qA ((ad.o _ e.symm).1)));obtain⟨⟨s0,s1,s2,s3,s4,s5,s6⟩,_⟩:=bI A3.o;have sz:=aD A3.o;clear cq;go_wp2;clear s0 s1 s2 s3 s4 s5 s6 sz;go_loopw [5,6,59] (fun _ _ i wr=>∃k:Nat,k<=p.aD2.length/\i=.int .i64 k/\Hid (aM (qR lv) 7 60 wr d.heap.size (fun b=>(ok b/\b<w.heap.size)\/C.heap.size<=b) (.slice E p.aD2.length z) p.aD2)/\Hid (aN (fun b=>some b≠T) C wr)) (fun _ _ i _=>p.aD2.length - (intOf i).toNat)
     case atStart=>exact⟨0,Nat.zero_le _,rfl,aA (dc.o.aEC (bC lv) (fun b a=> .inl a)),aA (aN.refl _ _)⟩
     case round=>
      clear t au a8;obtain⟨k,t,rfl,ba,S⟩:=hrel;by_cases au:k<p.aD2.length
      .have a8:(k:Int)<(p.aD2.length:Int):=qo;obtain⟨g,r0,e0,ds,m,be,a7,b7⟩:=ba.o.at (bC lv) au qe;subst e0
       rcases lv with _|lv
       .exact be.elim
       obtain⟨fh,fx,fu,fg,rfl,y⟩:=be;obtain⟨K,L,rfl,_⟩:=y.2.2.1.slice;obtain⟨M,N,rfl,_⟩:=y.2.2.2.1.slice;obtain⟨P,Q,rfl,_⟩:=y.2.2.2.2.1.slice;obtain⟨ua,uc,rfl,_⟩:=y.2.2.2.2.2.slice;obtain⟨y0,y1,y2,y3,y4,y5,y6⟩:=CW a7;rw[Nat.add_zero] at y0;have c8:Hid (T=some g):=aA ab.o;have ax:Hid (aM (qR (lv+1)) 7 60 wr d.heap.size (fun b=>(ok b/\b<w.heap.size)\/C.heap.size<=b) (.slice (some ⟨g,0,none⟩) p.aD2.length z) p.aD2):=aA ba.o;have af:Hid (fO lv wr (fun b=>((ok b/\b<w.heap.size)\/C.heap.size<=b)/\b<wr.heap.size/\b≠g) p.aD2[k] (.slice K p.aD2[k].aDY.length L) (.slice M p.aD2[k].aDR.length N) (.slice P p.aD2[k].aD2.length Q) (.slice ua p.aD2[k].aD4.length uc)):=aA y;have a1:=aA (fun (wq:World) (a:Below wr.heap.size wr wq) (vt vr vk vo:Value)=>Zx (vt:=vt) (vr:=vr) (vk:=vk) (vo:=vo) (ax.o.on (bC (lv+1)) a) au);clear a7 y ba;generalize p.aD2[k]=r at *;obtain⟨j,J⟩:=xE (wr.alloc (.cells (kR r K L M N P Q ua uc) 60));have ai:Below wr.heap.size wr j:=by rw[J];exact aB _ _
       have X:Hid (j.heap[wr.heap.size]? =some (.cells (kR r K L M N P Q ua uc) 60 (0,0))):=aA (by rw[J];exact aK _ _ _ rfl);have br:=aA J;have A:¬w.heap.size=g:=qo;have ak:¬wr.heap.size=g:=qo;have AV:=aA (aE (cf.o wr S.o) ai);have f:=aA ai;have o:Hid (∀w':World,w'.heap[w.heap.size]? =j.heap[w.heap.size]? ->w'.heap[wr.heap.size]? =j.heap[wr.heap.size]? ->w'.cell? ⟨w.heap.size,5,none⟩=some (.slice (some ⟨g,0,none⟩) p.aD2.length z)/\w'.cell? ⟨wr.heap.size,0,none⟩=some (.string r.id)/\w'.cell? ⟨wr.heap.size,1,none⟩=some (.bool r.set)/\w'.cell? ⟨wr.heap.size,2,none⟩=some (.int .i64 r.alg)/\w'.cell? ⟨wr.heap.size,3,none⟩=some (.slice K r.aDY.length L)/\w'.cell? ⟨wr.heap.size,4,none⟩=some (.slice M r.aDR.length N)/\w'.cell? ⟨wr.heap.size,5,none⟩=some (.slice P r.aD2.length Q)/\w'.cell? ⟨wr.heap.size,6,none⟩=some (.slice ua r.aD4.length uc)):=aA (fun w' h1 h2=>by
        rw[AV.o] at h1;rw[X.o] at h2;exact⟨aQ h1 5 _ rfl,aQ h2 0 _ rfl,aQ h2 1 _ rfl,aQ h2 2 _ rfl,aQ h2 3 _ rfl,aQ h2 4 _ rfl,aQ h2 5 _ rfl,aQ h2 6 _ rfl⟩)
       have zA:=aD AV.o;have zX:=aD X.o;have c:Hid (Below j.heap.size j j.drew):=aA (Below.refl _ _).drew;have bl:=aA (fun w' (a:Below j.heap.size j w')=>c1.o lv rfl _ r _ _ _ _ w' (af.o.aDW (aJ (aC f.o a))));unfold EB at bl;have cw:=o.o j rfl rfl;have H:=aA zA;have I:=aA zX;clear ai J;go_upto_region 11 with (fail)
       rw[<-br.o];obtain⟨ec,ed,ee,ef,eg,eh,ei,ej⟩:=cw;go_region_law
        ((go_simp;go_at_call 146;refine(bl.o _ c.o).mono ?_;rintro e wo ⟨fz,fy,fv,fw,rfl,av,ah⟩;obtain⟨cb,cc,rfl,_⟩:=av.2.2.1.slice;obtain⟨ey,ez,rfl,_⟩:=av.2.2.2.1.slice;obtain⟨et,eu,rfl,_⟩:=av.2.2.2.2.1.slice;obtain⟨b9,ca,rfl,_⟩:=av.2.2.2.2.2.slice;have cm:=aA (fO.inb (av.more (ok':=fun b=>(((ok b/\b<w.heap.size)\/C.heap.size<=b)/\b<wr.heap.size/\b≠g)\/j.heap.size<=b) (fun b a=>a.imp id (fun h=>lT c.o.size h))));replace c:=qB c ah;obtain⟨u1,u2,u3,u4,u5,u6,u7,u8⟩:=o.o _ (c.o.block _ H.o) (c.o.block _ I.o);have s:=xJ b7 f.o m c.o;have dz:=lL (lL m f.o.size) c.o.size;have q0:=((c.o.cell (p:=⟨g,k * 7,none⟩) (lL m f.o.size)).trans (f.o.cell (p:=⟨g,k * 7,none⟩) m)).trans y0;have dv:=s (k * 7);have q1:=((c.o.cell (p:=⟨g,k * 7+1,none⟩) (lL m f.o.size)).trans (f.o.cell (p:=⟨g,k * 7+1,none⟩) m)).trans y1;have bw:=s (k * 7+1);have q2:=((c.o.cell (p:=⟨g,k * 7+2,none⟩) (lL m f.o.size)).trans (f.o.cell (p:=⟨g,k * 7+2,none⟩) m)).trans y2;have bx:=s (k * 7+2);have q3:=((c.o.cell (p:=⟨g,k * 7+3,none⟩) (lL m f.o.size)).trans (f.o.cell (p:=⟨g,k * 7+3,none⟩) m)).trans y3;have bz:=s (k * 7+3);have q4:=((c.o.cell (p:=⟨g,k * 7+4,none⟩) (lL m f.o.size)).trans (f.o.cell (p:=⟨g,k * 7+4,none⟩) m)).trans y4;have dw:=s (k * 7+4);have q5:=((c.o.cell (p:=⟨g,k * 7+5,none⟩) (lL m f.o.size)).trans (f.o.cell (p:=⟨g,k * 7+5,none⟩) m)).trans y5;have dx:=s (k * 7+5);have q6:=((c.o.cell (p:=⟨g,k * 7+6,none⟩) (lL m f.o.size)).trans (f.o.cell (p:=⟨g,k * 7+6,none⟩) m)).trans y6;have dy:=s (k * 7+6);clear ah av))
       all_goals
        obtain⟨aw,bs,bn⟩:=aZ (aC f.o c.o) S.o.size m;have cn:=cm.o.more (ok':=fun b=>((ok b/\b<w.heap.size)\/C.heap.size<=b)/\b<wo.heap.size/\b≠g) (fun b a=>by
         have h1:=f.o.size;have h2:=bs.o;have h3:=bn.o
         rcases a.1 with h|h
         .exact⟨h.1,a.2,h.2.2⟩
         .exact⟨.inr qo,a.2,qo⟩)
        have HGN:=aA (a1.o wo aw.o _ _ _ _ cn);have n:¬(some g≠T):=fun h=>h c8.o.symm
        have HSN:=aA ((((((((S.o.trans (aJ aw.o)).trans (fI (i:=k * 7) (v:= .string r.id) n)).trans (fI (i:=k * 7+1) (v:= .bool r.set) n)).trans (fI (i:=k * 7+2) (v:= .int .i64 r.alg) n)).trans (fI (i:=k * 7+3) (v:= .slice cb r.aDY.length cc) n)).trans (fI (i:=k * 7+4) (v:= .slice ey r.aDR.length ez) n)).trans (fI (i:=k * 7+5) (v:= .slice et r.aD2.length eu) n)).trans (fI (i:=k * 7+6) (v:= .slice b9 r.aD4.length ca) n));clear n cn cm u1 u2 u3 u4 u5 u6 u7 u8 q0 q1 q2 q3 q4 q5 q6 s dv bw bx bz dw dx dy y0 y1 y2 y3 y4 y5 y6 ec ed ee ef eg eh ei ej c bl o X AV a1 af ax;exact QCQ
      .have a8:¬(k:Int)<(p.aD2.length:Int):=qo;obtain rfl:k=p.aD2.length:=qo;have c7:=aA (ba.o.aEK (bC lv) ea);have A4:=aA (cf.o wr S.o);have R4:=qS R3 S.o (fun e=>qA ((ad.o _ e.symm).1));have HBF:=aA (show Below w.heap.size w wr from (((an.o.trans (bc.o.below (fun k t=>⟨qo,fun e=>by omega⟩))).trans (B.o.below (fun k t=>⟨qA aq.o,fun e=>qA ((ao.o _ e.symm).1)⟩))).trans (S.o.below (fun k t=>⟨by have h1:=aq.o;have h2:=bp.o;omega,fun e=>qA ((ad.o _ e.symm).1)⟩))));have ch:Hid (aN (fun b=>w.heap.size+1+1<=b/\b<d.heap.size) d wr):=aA (((bc.o.mono (fun b _ a (e:b=w.heap.size)=>qA a.1)).trans (B.o.mono (fun b _ a e=>by have h1:=(ao.o _ e.symm).1;have h2:=a.2;omega))).trans (S.o.mono (fun b _ a e=>by have h1:=(ad.o _ e.symm).1;have h2:=a.2;omega)));have dk:=aA (aH.aDW aS (aH.inb aS a6.o) ch.o);have dd:=aA (aH.aDW aO (aH.inb aO az.o) ch.o);have di:=aA (aH.aDW bM dh.o (S.o.mono (fun b _ a e=>by
        have a8:=ad.o b e.symm
        rcases a with h|h
        .rcases h.1 with h|h
         .have:=h.2;omega
         .omega
        .exact ck.o b e.symm (by rw[ae.o];exact h))))
       obtain⟨⟨s0,s1,s2,s3,s4,s5,s6⟩,b0,b1,b2,b3,b4,b5,b6⟩:=bI A4.o;have sz:=aD A4.o;obtain⟨⟨r0,r1,r2,r3,r4,r5,r6⟩,f0,f1,f2,f3,f4,f5,f6⟩:=bI R4.o;have rz:=aD R4.o;go_wp2;refine bR (.agg #[.string p.id,.bool p.set,.int .i64 p.alg,.slice Z p.aDY.length aa,.slice F p.aDR.length x,.slice E p.aD2.length z,.slice W p.aD4.length Y]) ?_;have ct:¬(w.heap.size+1+1<=w.heap.size+1/\w.heap.size+1<d.heap.size):=fun h=>qA h.1
       refine⟨_,_,_,_,rfl,⟨HP.o.1,HP.o.2.1,?_,?_,?_,?_⟩,?_⟩
       .refine aH.more aS (ok:=fun b=>w.heap.size+1+1<=b/\b<d.heap.size) ?_ (fun b a=> .inr (qA a.1))
        repeat (refine aH.aDW aS ?_ (fI ct))
        exact dk.o
       .refine aH.more bM (ok:=fun b=>(((ok b/\b<w.heap.size)\/V.heap.size<=b)/\b<C.heap.size/\some b≠(Value.slice F p.aDR.length x).ownBlock)\/some b=(Value.slice F p.aDR.length x).ownBlock) ?_ (fun b a=> ?_)
        .repeat (refine aH.aDW bM ?_ (fI (fun h=> ?_)))
         exact di.o
         all_goals
          rcases h with h|h
          .rcases h.1 with h|h
           .have:=h.2;omega
           .have:=aq.o;omega
          .have:=(ao.o _ (ae.o.trans h.symm)).1;omega
        .rcases a with h|h
         .rcases h.1 with h|h
          .exact .inl h.1
          .exact .inr (qA aq.o)
         .exact .inr (qA ((ao.o _ (ae.o.trans h.symm)).1))
       .refine aH.more (bC lv) (ok:=fun b=>(((ok b/\b<w.heap.size)\/C.heap.size<=b)/\b<wr.heap.size/\some b≠(Value.slice E p.aD2.length z).ownBlock)\/some b=(Value.slice E p.aD2.length z).ownBlock) ?_ (fun b a=> ?_)
        .repeat (refine aH.aDW (bC lv) ?_ (fI (fun h=> ?_)))
         exact c7.o
         all_goals
          rcases h with h|h
          .rcases h.1 with h|h
           .have:=h.2;omega
           .have h1:=aq.o;have h2:=bp.o;omega
          .have:=(ad.o _ (ab.o.trans h.symm)).1;omega
        .rcases a with h|h
         .rcases h.1 with h|h
          .exact .inl h.1
          .exact .inr (by have h1:=aq.o;have h2:=bp.o;omega)
         .exact .inr (qA ((ad.o _ (ab.o.trans h.symm)).1))
       .refine aH.more aO (ok:=fun b=>w.heap.size+1+1<=b/\b<d.heap.size) ?_ (fun b a=> .inr (qA a.1))
        repeat (refine aH.aDW aO ?_ (fI ct))
        exact dd.o
       .exact QCY
theorem BY:∀lv,VS lv
 |0=>zD 0 (fun l h=>by omega)
 |lv+1=>zD (lv+1) (fun l h=>by injection h with h;exact h▸BY lv)
end Go.Proofs.YthcgdgkpgdjahaaGreatDoor
