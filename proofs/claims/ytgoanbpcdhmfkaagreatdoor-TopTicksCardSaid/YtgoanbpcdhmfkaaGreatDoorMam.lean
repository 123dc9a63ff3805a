/- Lemmas. -/
import Derived.Test.YtgoanbpcdhmfkaaGreatDoorMal
namespace Go.Proofs.YtgoanbpcdhmfkaaGreatDoor
open Go.RowKit
set_option linter.unusedVariables false
set_option linter.unusedSimpArgs false
set_option maxHeartbeats 16000000
open _root_.Go.Proofs.Tryz
set_option maxRecDepth 20000
section
variable {w:World} {base b2:Nat} {N:nP} {ok:nP} {e:TypeId} {g n c k:Nat}
theorem pB{β:Type}{R:Rep β}{s:Nat}{e:TypeId}(F:Firm R s){i:Nat}{x v:Value}{o:Option Value}{l:List β}(h:eY R s e b2 N w (fun b=>ok b/\b<w.heap.size/\b≠g) o v l):eY R s e b2 N (w.setCell ⟨g,i,none⟩ x) (fun b=>ok b/\b<(w.setCell ⟨g,i,none⟩ x).heap.size/\b≠g) o v l:=
 eY.more F (eY.aCT F h (fF (fun h=>h.2.2 rfl))) (fun b a=>⟨a.1,by rw[jL];exact a.2.1,a.2.2⟩)
theorem Uq{L:List Mix}(h:aM (dY b2 N) 5 e w base ok (.slice (some ⟨g,0,none⟩) n c) L)(m:k<L.length){f l:Value}(p:eY lE 4 196 b2 N w (fun b=>ok b/\b<w.heap.size/\b≠g) (some f) f L[k].1.aCP)(s:eY mS 3 54 b2 N w (fun b=>ok b/\b<w.heap.size/\b≠g) (some l) l L[k].1.log):
 aM (dY b2 N) 5 e (((((w.setCell ⟨g,k * 5,none⟩ (.string L[k].1.id)).setCell ⟨g,k * 5+1,none⟩ (.string L[k].1.aDb)).setCell ⟨g,k * 5+2,none⟩ (.string L[k].1.aC5)).setCell ⟨g,k * 5+3,none⟩ f).setCell ⟨g,k * 5+4,none⟩ l) base ok (.slice (some ⟨g,0,none⟩) n c) (L.set k (L[k].1,some f,some l)):=by
 have g0:=aM.setAt (dP b2 N) (j:=0) (x:= .string L[k].1.id) (y:=L[k]) h m qe (by rintro r ⟨a,b,rfl,d⟩;exact⟨a,b,rfl,d⟩);rw[List.set_getElem_self] at g0;have g1:=aM.setAt (dP b2 N) (j:=1) (x:= .string L[k].1.aDb) (y:=L[k]) g0 m qe (by rintro r ⟨a,b,rfl,d⟩;exact⟨a,b,rfl,d⟩);rw[List.set_getElem_self] at g1;have g2:=aM.setAt (dP b2 N) (j:=2) (x:= .string L[k].1.aC5) (y:=L[k]) g1 m qe (by rintro r ⟨a,b,rfl,d⟩;exact⟨a,b,rfl,d⟩);rw[List.set_getElem_self] at g2;have q:=(pB bP (i:=k * 5+2) (x:= .string L[k].1.aC5) (pB bP (i:=k * 5+1) (x:= .string L[k].1.aDb) (pB bP (i:=k * 5) (x:= .string L[k].1.id) p)));have g3:=aM.setAt (dP b2 N) (j:=3) (x:=f) (y:=(L[k].1,some f,L[k].2.2)) g2 m qe (by rintro r ⟨a,b,rfl,d⟩;exact⟨f,b,rfl,d.1,d.2.1,d.2.2.1,q,d.2.2.2.2⟩);have t:=(pB bW (i:=k * 5+3) (x:=f) (pB bW (i:=k * 5+2) (x:= .string L[k].1.aC5) (pB bW (i:=k * 5+1) (x:= .string L[k].1.aDb) (pB bW (i:=k * 5) (x:= .string L[k].1.id) s))));have o:(L.set k (L[k].1,some f,L[k].2.2))[k]'(by rw[List.length_set];exact m)=(L[k].1,some f,L[k].2.2):=List.getElem_set_self _;have g4:=aM.setAt (dP b2 N) (j:=4) (x:=l) (y:=(L[k].1,some f,some l)) g3 (by rw[List.length_set];exact m) qe (by
  rw[o];rintro r ⟨a,b,rfl,d⟩;exact⟨a,l,rfl,d.1,d.2.1,d.2.2.1,d.2.2.2.1,t⟩)
 rw[List.set_set] at g4;exact g4
end
structure tZ (L:List Mix) (l:List cF) (k:Nat):Prop where
 all:L.map Prod.fst=l
 done:∀j (hj:j<L.length),j<k->L[j].2.1.isSome=true/\L[j].2.2.isSome=true
 apart:pJ L
theorem tZ.len{L:List Mix}{l:List cF}{k:Nat}(h:tZ L l k):L.length=l.length:=by rw[<-h.all,List.length_map]
theorem QN(l:List cF):tZ (l.map (fun c=>((c,none,none):Mix))) l 0:=⟨by rw[List.map_map];exact List.map_id' l,fun j hj h=>by omega,FR l⟩
theorem tZ.step{L:List Mix}{l:List cF}{k n:Nat}(h:tZ L l k)(hk:k<L.length){u v:Value}(d:∀j (hj:j<L.length),(∀a b,L[j].2.1=some a->a.ownBlock=some b->b<n)/\(∀a b,L[j].2.2=some a->a.ownBlock=some b->b<n))(hu:∀b,u.ownBlock=some b->n<=b)(e:∀b,v.ownBlock=some b->n<=b):tZ (L.set k (L[k].1,some u,some v)) l (k+1):=by
 refine⟨?_,?_,?_⟩
 .exact QCk
 .intro j hj f;rw[List.getElem_set];split
  .exact⟨rfl,rfl⟩
  .rename_i g;rw[List.length_set] at hj;exact h.done j hj qo
 .exact OI h.apart hk d (.inr (fun a q ha c=>by injection ha with ha;subst ha;exact hu q c)) (.inr (fun a q ha c=>by injection ha with ha;subst ha;exact e q c))
def KI(t:Ta)(w:World)(e:Ending)(w':World):Prop:=∃v,e=.returned v/\nZ w' (fun b=>w.heap.size<=b) v t/\Below w.heap.size w w'
theorem BG{ok:nP}(vt:Value)(t:Ta)(w:World)(h:nZ w ok vt t):Calls prog 206 #[vt] w (KI t w):=by
 obtain⟨ta,tc,rfl,ak⟩:=h.slice;have HS:=aA h;clear h;go_enter func206,ntmps206;go_wp2;go_loopw [3,5,11] (fun v _ i wr=>∃(k G:Nat) (R:oD) (S:Nat),k<=t.length/\i=.int .i64 k/\v=.slice R G S/\Hid (G=k)/\Hid (aM (rows (rows rM)) 1 271 wr w.heap.size (fun b=>w.heap.size<=b) (.slice R G S) (t.take k))/\Hid (Below w.heap.size w wr)) (fun _ _ i _=>t.length - (intOf i).toNat)
 case atStart=>exact Ry
 case round=>
  obtain⟨d,rfl⟩:∃d:World,d=wr:=⟨_,rfl⟩;obtain⟨k,G,R,S,hk,rfl,rfl,ae,F,E⟩:=hrel;by_cases Z:k<t.length
  .have aj:(k:Int)<(t.length:Int):=qo;obtain⟨b,off,r,rfl,_,ao,⟨vx,rfl,V⟩,C⟩:=aH.at aS (aH.on aS HS.o E.o) Z qe;obtain⟨xa,xc,rfl,al⟩:=V.slice;have x0:=C 0 _ rfl;rw[Nat.add_zero,Nat.mul_one] at x0;have ag:Hid (t.take k++[t[k]]=t.take (k+1)):=aA (List.take_succ_eq_append_getElem Z).symm;have ab:=aA (show (t.take k).length=k by rw[List.length_take];omega);have HX:=aA V;clear C V;generalize t[k]=l at *;go_wp2;clear x0;go_loopw [6,8,17] (fun v _ i wr=>∃(j m2:Nat) (z:oD) (A:Nat),j<=l.length/\i=.int .i64 j/\v=.slice z m2 A/\Hid (m2=j)/\Hid (aM (rows rM) 1 317 wr d.heap.size (fun b=>d.heap.size<=b) (.slice z m2 A) (l.take j))/\Hid (Below d.heap.size d wr)) (fun _ _ i _=>l.length - (intOf i).toNat)
   case atStart=>exact Ry
   case round=>
    obtain⟨j,m2,z,A,hj,rfl,rfl,ad,n,o⟩:=hrel;by_cases Y:j<l.length
    .have ai:(j:Int)<(l.length:Int):=qo;obtain⟨b2,ar,r2,rfl,_,aq,⟨vy,rfl,W⟩,C⟩:=aH.at dO (aH.on dO HX.o o.o) Y qe;obtain⟨ya,yc,rfl,an⟩:=W.slice;have y0:=C 0 _ rfl;rw[Nat.add_zero,Nat.mul_one] at y0;have af:Hid (l.take j++[l[j]]=l.take (j+1)):=aA (List.take_succ_eq_append_getElem Y).symm;have aa:=aA (show (l.take j).length=j by rw[List.length_take];omega);have K:=aA (XC _ _ wr W);clear C W;generalize l[j]=x at *;have ah:=aA an;unfold bV at K;have O:=aA n.o.lt;have Q:=aA o.o.size;go_wp2_with fail;refine K.o.mono ?_;rintro e H ⟨v,rfl,c,U⟩;obtain⟨va,vc,rfl⟩:=c.slice;have s:=aA ((eI (enc:=Aw) (good:=tR) (ok':=fun b=>wr.heap.size<=b) c).sl ah.o (fun b=>wr.heap.size<=b) (fun b a _=>a) (fun b a _=>a) eP);obtain⟨X,g,P⟩:=aY (aC o.o U) (aB H (.cells #[.slice va x.length vc] 317)) (aK H (.cells #[.slice va x.length vc] 317) H.heap.size qs);obtain⟨q,f,L⟩:=aY ((n.o.on dO U).on dO g.o) (aC X.o g.o) (aH.inb eP (aH.on eP s.o g.o));clear K c U n s X y0;go_wp2_with (at_builtin;refine cB (base:=d.heap.size) Xq dO rfl (.tmp 21) (.tmp 24) rfl _ (l.take j) rfl q.o H.heap.size 1 _ _ _ x rfl P.o ⟨_,rfl,aH.more eP L.o (fun y m=>⟨lT Q.o m.1,m.2,fun e=>absurd (O.o y e.symm).2 (Nat.not_lt.2 m.1)⟩)⟩ (by rw[aa.o];omega) qo f.o.size ?_;intro l' D I c2 w9 B c T;have M:=aA B;have J:=aA (q.o.below f.o c (lR _) f.o.size);have N:=aA D.o;clear B c T D)
     have p:Hid (l'=l.take (j+1)):=aA (by rw[N.o,af.o]);go_roundw
     case rel=>exact⟨j+1,l'.length,I,c2,qo,by go_num,rfl,aA (by rw[p.o,List.length_take];omega),aA (by have h:=M.o;rw[<-p.o];exact h),J⟩
     case measure=>simp[intOf];omega
    .have ai:¬(j:Int)<(l.length:Int):=qo;obtain rfl:j=l.length:=qo;rw[List.take_of_length_le (lR _)] at n;have hm:=ad.o;subst hm;have s:=aA (n.o.sl al (fun b=>d.heap.size<=b) (fun b a _=>a) (fun b a _=>a) dO);obtain⟨O,Q,g,P⟩:=dD F.o.lt E.o.size (aB wr (.cells #[.slice z l.length A] 271)) (aK wr (.cells #[.slice z l.length A] 271) wr.heap.size qs);obtain⟨q,f,L⟩:=aY ((F.o.on aS o.o).on aS g.o) (aC (aC E.o o.o) g.o) (aH.inb dO (aH.on dO s.o g.o));clear n s;go_wp2_with (at_builtin;refine cB (base:=w.heap.size) Rz aS rfl (.tmp 27) (.tmp 29) rfl _ (t.take k) rfl q.o wr.heap.size 1 _ _ _ l rfl P.o ⟨_,rfl,aH.more dO L.o (fun y m=>⟨lT Q.o m.1,m.2,fun e=>absurd (O.o y e.symm).2 (Nat.not_lt.2 m.1)⟩)⟩ (by rw[ab.o];omega) qo f.o.size ?_;intro l' D I c2 w9 B c T;have M:=aA B;have J:=aA (q.o.below f.o c (lR _) f.o.size);have N:=aA D.o;clear B c T D)
     have p:Hid (l'=t.take (k+1)):=aA (by rw[N.o,ag.o]);go_roundw
     case rel=>exact⟨k+1,l'.length,I,c2,qo,by go_num,rfl,aA (by rw[p.o,List.length_take];omega),aA (by have h:=M.o;rw[<-p.o];exact h),J⟩
     case measure=>simp[intOf];omega
  .have aj:¬(k:Int)<(t.length:Int):=qo;obtain rfl:k=t.length:=qo;rw[List.take_of_length_le (lR _)] at F;have hm:=ae.o;subst hm;go_wp2;go_returns;exact⟨_,rfl,F.o.sl ak _ (fun b a _=>a) (fun b a _=>a) aS,E.o⟩
theorem QCR{p:Prop}(h:p:=by
 go_wp2;go_roundw
 case rel=>exact⟨k+1,qo,by go_num,HGN,HSN⟩
 case measure=>simp[intOf];omega):p:=h
def DJ(lv:Nat)(ok:nP)(p:Po)(w:World)(e:Ending)(w':World):Prop:=∃vt vr vk vo,e=.returned (.agg #[.string p.id,.bool p.set,.int .i64 p.alg,vt,vr,vk,vo])/\fM lv w' (fun b=>ok b\/w.heap.size<=b) p vt vr vk vo/\Below w.heap.size w w'
def UD(lv:Nat):Prop:=∀(ok:nP) (p:Po) (vt vr vk vo:Value) (w:World),fM lv w ok p vt vr vk vo->Calls prog 163 #[.agg #[.string p.id,.bool p.set,.int .i64 p.alg,vt,vr,vk,vo]] w (DJ lv ok p w)
theorem yR(lv:Nat)(IH:∀l,lv=l+1->UD l):UD lv:=by
 intro ok p vt vr vk vo w cu;have hp:=cu.inb;clear cu;obtain⟨ta,tc,rfl,_⟩:=hp.2.2.1.slice;obtain⟨ra,rc,rfl,_⟩:=hp.2.2.2.1.slice;obtain⟨ka,kc,rfl,ea⟩:=hp.2.2.2.2.1.slice;obtain⟨oa,oc,rfl,_⟩:=hp.2.2.2.2.2.slice;obtain⟨O1,bt⟩:∃O:Obj,O=.cells (kH p ta tc ra rc ka kc oa oc) 38:=⟨_,rfl⟩;obtain⟨O2,cr⟩:∃O:Obj,O=.cells vZ 38:=⟨_,rfl⟩;obtain⟨W0,bf⟩:=xE ((w.alloc O1).alloc O2);have bo:=aA (bf▸JZ w O1 O2:Kq w w.heap.size (w.heap.size+1) O1 O2 W0);have fj:=aA bo.o.1;have fp:Hid (W0.heap.size=w.heap.size+1+1):=aA (by rw[bf];simp);have bg:Hid (∀w',Kq w w.heap.size (w.heap.size+1) O1 O2 w'->(w'.cell? ⟨w.heap.size,0,none⟩=some (.string p.id)/\w'.cell? ⟨w.heap.size,1,none⟩=some (.bool p.set)/\w'.cell? ⟨w.heap.size,2,none⟩=some (.int .i64 p.alg)/\w'.cell? ⟨w.heap.size,3,none⟩=some (.slice ta p.aCU.length tc)/\w'.cell? ⟨w.heap.size,4,none⟩=some (.slice ra p.aCM.length rc)/\w'.cell? ⟨w.heap.size,5,none⟩=some (.slice ka p.aCY.length kc)/\w'.cell? ⟨w.heap.size,6,none⟩=some (.slice oa p.aC0.length oc))/\w'.frozen? ⟨w.heap.size,3,none⟩=false/\w'.frozen? ⟨w.heap.size,6,none⟩=false/\w.heap.size<w'.heap.size):=aA (fun w' t=>by
  have h:=t.2.1;rw[bt] at h;obtain⟨q,f0,f1,f2,f3,f4,f5,f6⟩:=bI h;exact⟨q,f3,f6,aD h⟩)
 have cj:Hid (∀w',Kq w w.heap.size (w.heap.size+1) O1 O2 w'->w.heap.size+1+1<=w'.heap.size):=aA (fun w' t=>qA (aD t.2.2));have HT:Hid (∀w',Kq w w.heap.size (w.heap.size+1) O1 O2 w'->Calls prog 206 #[.slice ta p.aCU.length tc] w' (KI p.aCU w')):=aA (fun w' t=>BG _ _ _ (aH.on aS hp.2.2.1 t.1));have HO:Hid (∀w',Kq w w.heap.size (w.heap.size+1) O1 O2 w'->Calls prog 207 #[.slice oa p.aC0.length oc] w' (bV jU 3 191 _ p.aC0 w')):=aA (fun w' t=>FP _ _ _ (aH.on aO hp.2.2.2.2.2 t.1));have eb:p.aC0.length<=1000000:=by obtain⟨_,_,_,h4⟩:=hp.2.2.2.2.2.slice;exact h4
 have cv:p.aCM.length<=1000000:=by obtain⟨_,_,_,h4⟩:=hp.2.2.2.1.slice;exact h4
 obtain⟨HP,c1,fl,fm,dn⟩:=gC hp IH bt cr bf;unfold KI at HT;unfold bV at HO;clear hp IH bf;subst bt cr;go_enter func163,ntmps163;go_upto_region 1 with (fail)
 rw[<-dn.o];go_cut [2] from 7 to 14 (fun v w'=>∃(Z:oD) (aa:Nat) (W:oD) (Y:Nat),v=.pointer (some ⟨w.heap.size+1,0,none⟩)/\Hid (w'.heap[w.heap.size]? =some (.cells (kH p Z aa ra rc ka kc W Y) 38 (0,0)))/\Hid (w'.heap[w.heap.size+1]? =some (.cells vZ 38 (0,0)))/\Hid (nZ w' (fun b=>w.heap.size+1+1<=b) (.slice Z p.aCU.length aa) p.aCU)/\Hid (aH jU w' (fun b=>w.heap.size+1+1<=b) (.slice W p.aC0.length Y) p.aC0)/\Hid (Below w.heap.size w w'))
 case first=>
  obtain⟨⟨s0,s1,s2,s3,s4,s5,s6⟩,h3,h6,en⟩:=bg.o _ bo.o;have da:=aA (Kq.on bo.o (Below.refl _ _).drew);go_region_law
   ((first
     |(go_simp;go_at_call 206;refine(HT.o _ (Hid.o (p:=Kq w w.heap.size (w.heap.size+1) _ _ _) (by assumption))).mono ?_;rintro e wa ⟨va,rfl,al,D⟩;obtain⟨Z,aa,rfl,_⟩:=al.slice;have a6:=aA (aH.more (ok':=fun b=>w.heap.size+1+1<=b) aS al (fun b a=>lT (cj.o _ (Hid.o (p:=Kq w w.heap.size (w.heap.size+1) _ _ _) (by assumption))) a));(first|(have df:=aA (aH.on aO az.o D))|skip);have HKa:=aA (Kq.on (Hid.o (p:=Kq w w.heap.size (w.heap.size+1) _ _ _) (by assumption)) D);obtain⟨⟨e1,e2,e3,e4,e5,e6,e7⟩,dq,dr,eo⟩:=bg.o _ HKa.o;clear D al)
     |(go_simp;go_at_call 207;refine(HO.o _ (Hid.o (p:=Kq w w.heap.size (w.heap.size+1) _ _ _) (by assumption))).mono ?_;rintro e wc ⟨vc,rfl,aj,ag⟩;obtain⟨W,Y,rfl⟩:=aj.slice;have az:=aA ((eI (enc:=EE) (good:=yF) (ok':=fun b=>w.heap.size+1+1<=b) (aM.less aj (cj.o _ (Hid.o (p:=Kq w w.heap.size (w.heap.size+1) _ _ _) (by assumption))))).sl eb (fun b=>w.heap.size+1+1<=b) (fun b a _=>a) (fun b a _=>a) aO);(first|(have dm:=aA (aH.on aS a6.o ag))|skip);have HKc:=aA (Kq.on (Hid.o (p:=Kq w w.heap.size (w.heap.size+1) _ _ _) (by assumption)) ag);obtain⟨⟨e8,e9,fa,fb,fc,fe,ff⟩,dt,du,ep⟩:=bg.o _ HKc.o;clear ag aj)))
  all_goals
   go_wp2;go_meet;have hA:¬(w.heap.size+1+1<=w.heap.size):=qo;refine⟨Z,aa,W,Y,rfl,aA ?_,aA ?_,aA ?_,aA ?_,aA ?_⟩
   .first
     |exact aG (aG HKc.o.2.1 3 _) 6 _
     |exact aG (aG HKc.o.2.1 6 _) 3 _
     |exact aG (aG HKa.o.2.1 3 _) 6 _
     |exact aG (aG HKa.o.2.1 6 _) 3 _
   .first
     |exact bE (bE HKc.o.2.2 qo) qo
     |exact bE (bE HKa.o.2.2 qo) qo
   .repeat (refine aH.aCT aS ?_ (fF hA))
    first|exact dm.o|exact a6.o
   .repeat (refine aH.aCT aO ?_ (fF hA))
    first|exact az.o|exact df.o
   .exact QCH
 case rest=>
  obtain⟨Z,aa,W,Y,hv,A1,R1,a6,az,an⟩:=hcut;subst hv;have bq:=aA (aD R1.o);obtain⟨d,cx⟩:=xE wc;rw[<-cx] at A1 R1 a6 az an bq ⊢;clear cx;have ek:w.heap.size+1<d.heap.size:=bq.o;have fo:=aA (aH.inb bM (aH.on bM HP.o.2.2.2.1 an.o));have fk:=aA (aH.inb (bB lv) (aH.on (bB lv) HP.o.2.2.2.2.1 an.o));have cp:Hid (∀w',Below d.heap.size d w'->Calls prog 208 #[.slice ra p.aCM.length rc] w' (bV yG 5 276 (fun b=>ok b/\b<w.heap.size) p.aCM w')):=aA (fun w' a=>XE _ _ _ (aH.on bM HP.o.2.2.2.1 (aC an.o a)));have cg:Hid (∀w',Below d.heap.size d w'->Calls prog 209 #[.slice ka p.aCY.length kc] w' (bV (pZ lv) 7 38 (fun b=>ok b/\b<w.heap.size) p.aCY w')):=aA (fun w' a=>XF _ _ _ (aH.on (bB lv) HP.o.2.2.2.2.1 (aC an.o a)));have bh:Hid (∀w',Below d.heap.size d w'->(w'.cell? ⟨w.heap.size,0,none⟩=some (.string p.id)/\w'.cell? ⟨w.heap.size,1,none⟩=some (.bool p.set)/\w'.cell? ⟨w.heap.size,2,none⟩=some (.int .i64 p.alg)/\w'.cell? ⟨w.heap.size,3,none⟩=some (.slice Z p.aCU.length aa)/\w'.cell? ⟨w.heap.size,4,none⟩=some (.slice ra p.aCM.length rc)/\w'.cell? ⟨w.heap.size,5,none⟩=some (.slice ka p.aCY.length kc)/\w'.cell? ⟨w.heap.size,6,none⟩=some (.slice W p.aC0.length Y))/\w'.frozen? ⟨w.heap.size,4,none⟩=false/\w'.frozen? ⟨w.heap.size,5,none⟩=false/\w.heap.size<w'.heap.size):=aA (fun w' a=>by
   obtain⟨q,f0,f1,f2,f3,f4,f5,f6⟩:=bI (aE A1.o a);exact⟨q,f4,f5,aD (aE A1.o a)⟩)
  unfold bV at cp cg;have c6:=aA (Below.refl d.heap.size d);go_upto_region 2 with (fail)
  go_cut [2] from 15 to 22 (fun v w'=>∃(F:oD) (x:Nat) (E:oD) (z:Nat),v=.pointer (some ⟨w.heap.size+1,0,none⟩)/\Hid (w'.heap[w.heap.size]? =some (.cells (kH p Z aa F x E z W Y) 38 (0,0)))/\Hid (w'.heap[w.heap.size+1]? =some (.cells vZ 38 (0,0)))/\Hid (aM yG 5 276 w' d.heap.size (fun b=>ok b/\b<w.heap.size) (.slice F p.aCM.length x) p.aCM)/\Hid (aM (pZ lv) 7 38 w' d.heap.size (fun b=>ok b/\b<w.heap.size) (.slice E p.aCY.length z) p.aCY)/\Hid (aN (fun b=>b≠w.heap.size) d w'))
  case first=>
   obtain⟨⟨s0,s1,s2,s3,s4,s5,s6⟩,h3,h6,en⟩:=bh.o _ c6.o;have da:=aA (Below.refl d.heap.size d).drew;go_region_law
    ((first
      |(go_simp;go_at_call 208;refine(cp.o _ (Hid.o (p:=Below d.heap.size d _) (by assumption))).mono ?_;rintro e wa ⟨va,rfl,A,D⟩;obtain⟨F,x,rfl⟩:=A.slice;have G:=aA (aM.less A (Hid.o (p:=Below d.heap.size d _) (by assumption)).size);(first|(have db:=aA (aM.on (bB lv) R.o D))|skip);have HKa:=aA (aC (Hid.o (p:=Below d.heap.size d _) (by assumption)) D);obtain⟨⟨e1,e2,e3,e4,e5,e6,e7⟩,dq,dr,eo⟩:=bh.o _ HKa.o;clear D A)
      |(go_simp;go_at_call 209;refine(cg.o _ (Hid.o (p:=Below d.heap.size d _) (by assumption))).mono ?_;rintro e wb ⟨vb,rfl,aj,ag⟩;obtain⟨E,z,rfl⟩:=aj.slice;have R:=aA (aM.less aj (Hid.o (p:=Below d.heap.size d _) (by assumption)).size);(first|(have dj:=aA (aM.on bM G.o ag))|skip);have ay:=aA (aC (Hid.o (p:=Below d.heap.size d _) (by assumption)) ag);obtain⟨⟨e8,e9,fa,fb,fc,fe,ff⟩,dt,du,ep⟩:=bh.o _ ay.o;clear ag aj)))
   all_goals
    go_wp2;go_meet;have hA:¬(ok w.heap.size/\w.heap.size<w.heap.size):=fun h=>by omega
    have fr:w.heap.size<d.heap.size:=qA bq.o;refine⟨F,x,E,z,rfl,aA ?_,aA ?_,aA ?_,aA ?_,aA ?_⟩
    .first
      |exact aG (aG (aE A1.o ay.o) 4 _) 5 _
      |exact aG (aG (aE A1.o ay.o) 5 _) 4 _
      |exact aG (aG (aE A1.o HKa.o) 4 _) 5 _
      |exact aG (aG (aE A1.o HKa.o) 5 _) 4 _
    .first
      |exact bE (bE (aE R1.o ay.o) qo) qo
      |exact bE (bE (aE R1.o HKa.o) qo) qo
    .repeat (refine aM.off bM ?_ hA (fun h=>by obtain⟨cs,ho,_⟩:=(G.o);have:=(ho.lt _ h).1;omega))
     first|exact dj.o|exact G.o
    .repeat (refine aM.off (bB lv) ?_ hA (fun h=>by obtain⟨cs,ho,_⟩:=(R.o);have:=(ho.lt _ h).1;omega))
     first|exact R.o|exact db.o
    .refine aN.trans ?_ ((aI _).trans (aI _))
     first|exact aJ ay.o|exact aJ HKa.o
  case rest=>
   obtain⟨F,x,E,z,hv,A2,R2,G,R,bc⟩:=hcut;subst hv;obtain⟨V,cy⟩:=xE wc;rw[<-cy] at A2 R2 G R bc ⊢;clear cy;have aq:=aA bc.o.size;have fq:=aA ek;obtain⟨U,dp⟩:∃U:Option Nat,U=(Value.slice F p.aCM.length x).ownBlock:=⟨_,rfl⟩;have ae:=aA dp;have cd:=aA (show ∀wr,aN (fun b=>some b≠U) V wr->wr.heap[w.heap.size]? =_ from fun wr h=>aF A2.o h (fun e=>qA ((G.o.lt _ (ae.o▸e.symm)).1)));obtain⟨⟨s0,s1,s2,s3,s4,s5,s6⟩,_⟩:=bI A2.o;have sz:=aD A2.o;go_wp2;clear s0 s1 s2 s3 s4 s5 s6 sz;go_loopw [3,4,26] (fun _ _ i wr=>∃k:Nat,k<=p.aCM.length/\i=.int .i64 k/\Hid (aM yG 5 276 wr d.heap.size (fun b=>(ok b/\b<w.heap.size)\/V.heap.size<=b) (.slice F p.aCM.length x) p.aCM)/\Hid (aN (fun b=>some b≠U) V wr)) (fun _ _ i _=>p.aCM.length - (intOf i).toNat)
   case atStart=>exact⟨0,Nat.zero_le _,rfl,aA (G.o.aDu bM (fun b a=> .inl a)),aA (aN.refl _ _)⟩
   case round=>
    obtain⟨k,t,rfl,HG,B⟩:=hrel;by_cases au:k<p.aCM.length
    .have a8:(k:Int)<(p.aCM.length:Int):=qo;obtain⟨g,r0,e0,ds,m,be,a7,b7⟩:=HG.o.at bM au qe;subst e0;obtain⟨fh,ft,fg,rfl,y⟩:=be;obtain⟨K,L,rfl,_⟩:=y.2.1.slice;obtain⟨M,N,rfl,el⟩:=y.2.2.1.slice;obtain⟨P,Q,rfl,er⟩:=y.2.2.2.slice;obtain⟨y0,y1,y2,y3,y4⟩:=FM a7;rw[Nat.add_zero] at y0;have de:Hid (U=some g):=aA ae.o;have ax:Hid (aM yG 5 276 wr d.heap.size (fun b=>(ok b/\b<w.heap.size)\/V.heap.size<=b) (.slice (some ⟨g,0,none⟩) p.aCM.length x) p.aCM):=aA HG.o;have fs:p.aCM.length<=1000000:=cv;have af:=aA y;have a1:=aA (fun (wq:World) (a:Below wr.heap.size wr wq) (vt vc vo:Value)=>Xm (vt:=vt) (vc:=vc) (vo:=vo) (ax.o.on bM a) au);clear a7 y HG;generalize p.aCM[k]=r at *;obtain⟨j,J⟩:=xE (wr.alloc (.cells #[.string r.id,.bool r.aDl,.slice K r.aCU.length L,.slice M r.cond.length N,.slice P r.aC0.length Q] 276));have ai:Below wr.heap.size wr j:=by rw[J];exact aB _ _
     have X:Hid (j.heap[wr.heap.size]? =some (.cells #[.string r.id,.bool r.aDl,.slice K r.aCU.length L,.slice M r.cond.length N,.slice P r.aC0.length Q] 276 (0,0))):=aA (by rw[J];exact aK _ _ _ rfl);have br:=aA J;have A:¬w.heap.size=g:=qo;have ak:¬wr.heap.size=g:=qo;have AV:=aA (aE (cd.o wr B.o) ai);have f:=aA ai;have o:Hid (∀w':World,w'.heap[w.heap.size]? =j.heap[w.heap.size]? ->w'.heap[wr.heap.size]? =j.heap[wr.heap.size]? ->w'.cell? ⟨w.heap.size,4,none⟩=some (.slice (some ⟨g,0,none⟩) p.aCM.length x)/\w'.cell? ⟨wr.heap.size,2,none⟩=some (.slice K r.aCU.length L)/\w'.cell? ⟨wr.heap.size,3,none⟩=some (.slice M r.cond.length N)/\w'.cell? ⟨wr.heap.size,4,none⟩=some (.slice P r.aC0.length Q)):=aA (fun w' h1 h2=>by
      rw[AV.o] at h1;rw[X.o] at h2;exact⟨aQ h1 4 _ rfl,aQ h2 2 _ rfl,aQ h2 3 _ rfl,aQ h2 4 _ rfl⟩)
     have zA:=aD AV.o;have zX:=aD X.o;have c:Hid (Below j.heap.size j j.drew):=aA (Below.refl _ _).drew;have bm:=aA (fun w' (a:Below j.heap.size j w')=>BG _ r.aCU w' (aH.on aS af.o.2.1 (aC f.o a)));have bj:=aA (fun w' (a:Below j.heap.size j w')=>XD _ r.cond w' (aH.on dQ af.o.2.2.1 (aC f.o a)));have bk:=aA (fun w' (a:Below j.heap.size j w')=>FP _ r.aC0 w' (aH.on aO af.o.2.2.2 (aC f.o a)));unfold KI at bm;unfold bV at bj bk;have cw:=o.o j rfl rfl;have H:=aA zA;have I:=aA zX;clear ai J;go_upto_region 6 with (fail)
     rw[<-br.o];go_region_held3 (fun w'=>w'.cell? ⟨w.heap.size,4,none⟩=some (.slice (some ⟨g,0,none⟩) p.aCM.length x)/\w'.cell? ⟨wr.heap.size,2,none⟩=some (.slice K r.aCU.length L)/\w'.cell? ⟨wr.heap.size,3,none⟩=some (.slice M r.cond.length N)/\w'.cell? ⟨wr.heap.size,4,none⟩=some (.slice P r.aC0.length Q))
      (first|assumption |exact o.o _ (c.o.block _ H.o) (c.o.block _ I.o)|exact o.o _ ((Below.heap_setCell _ _ _ _ A).trans (c.o.block _ H.o)) ((Below.heap_setCell _ _ _ _ ak).trans (c.o.block _ I.o))|exact o.o _ ((Below.heap_setCell _ _ _ _ A).trans ((Below.heap_setCell _ _ _ _ A).trans (c.o.block _ H.o))) ((Below.heap_setCell _ _ _ _ ak).trans ((Below.heap_setCell _ _ _ _ ak).trans (c.o.block _ I.o)))|exact o.o _ ((Below.heap_setCell _ _ _ _ A).trans ((Below.heap_setCell _ _ _ _ A).trans ((Below.heap_setCell _ _ _ _ A).trans (c.o.block _ H.o)))) ((Below.heap_setCell _ _ _ _ ak).trans ((Below.heap_setCell _ _ _ _ ak).trans ((Below.heap_setCell _ _ _ _ ak).trans (c.o.block _ I.o)))))
      ((first
        |(go_at_call 206;refine(bm.o _ c.o).mono ?_;rintro e wa ⟨va,rfl,al,D⟩;obtain⟨cb,cc,rfl,_⟩:=al.slice;have ar:=aA (aH.more (ok':=fun b=>j.heap.size<=b) aS al (fun b a=>lT c.o.size a));replace c:=qB c D;have hS:=o.o _ (c.o.block _ H.o) (c.o.block _ I.o);clear D al)
        |(go_at_call 210;refine(bj.o _ c.o).mono ?_;rintro e wn ⟨vn,rfl,b8,bu⟩;obtain⟨ev,ew,rfl⟩:=b8.slice;have bb:=aA ((eI (enc:=Ax) (good:=oO) (ok':=fun b=>j.heap.size<=b) (aM.less b8 c.o.size)).sl el (fun b=>j.heap.size<=b) (fun b a _=>a) (fun b a _=>a) dQ);replace ar:=aA (aH.on aS ar.o bu);replace c:=qB c bu;have hS:=o.o _ (c.o.block _ H.o) (c.o.block _ I.o);clear bu b8)
        |(go_at_call 207;refine(bk.o _ c.o).mono ?_;rintro e wo ⟨vo,rfl,n,ah⟩;obtain⟨b9,ca,rfl⟩:=n.slice;have cl:=aA ((eI (enc:=EE) (good:=yF) (ok':=fun b=>j.heap.size<=b) (aM.less n c.o.size)).sl er (fun b=>j.heap.size<=b) (fun b a _=>a) (fun b a _=>a) aO);replace ar:=aA (aH.on aS ar.o ah);replace bb:=aA (aH.on dQ bb.o ah);replace c:=qB c ah;have hS:=o.o _ (c.o.block _ H.o) (c.o.block _ I.o);have s:=wY b7 f.o m c.o;have dz:=lL (lL m f.o.size) c.o.size;have q2:=((c.o.cell (p:=⟨g,k * 5+2,none⟩) (lL m f.o.size)).trans (f.o.cell (p:=⟨g,k * 5+2,none⟩) m)).trans y2;have q3:=((c.o.cell (p:=⟨g,k * 5+3,none⟩) (lL m f.o.size)).trans (f.o.cell (p:=⟨g,k * 5+3,none⟩) m)).trans y3;have q4:=((c.o.cell (p:=⟨g,k * 5+4,none⟩) (lL m f.o.size)).trans (f.o.cell (p:=⟨g,k * 5+4,none⟩) m)).trans y4;have bw:=s (k * 5+2);have bx:=s (k * 5+3);have bz:=s (k * 5+4);clear ah n)))
     all_goals
      obtain⟨aw,bs,bn⟩:=aY (aC f.o c.o) B.o.size m;have bd:∀b,j.heap.size<=b/\b<wo.heap.size->((ok b/\b<w.heap.size)\/V.heap.size<=b)/\b<wo.heap.size/\b≠g:=fun b a=>by
       have h1:=f.o.size;have h2:=bs.o;have h3:=bn.o;exact⟨.inr qo,a.2,qo⟩
      have HGN:=aA (a1.o wo aw.o _ _ _ (aH.more aS (aH.inb aS ar.o) bd) (aH.more dQ (aH.inb dQ bb.o) bd) (aH.more aO (aH.inb aO cl.o) bd));have n:¬(some g≠U):=fun h=>h de.o.symm
      have HSN:=aA ((((B.o.trans (aJ aw.o)).trans (fF (i:=k * 5+2) (v:= .slice cb r.aCU.length cc) n)).trans (fF (i:=k * 5+3) (v:= .slice ev r.cond.length ew) n)).trans (fF (i:=k * 5+4) (v:= .slice b9 r.aC0.length ca) n));clear bd n ar bb cl hS q2 q3 q4 s bw bx bz y0 y1 y2 y3 y4 c bm bj bk o X AV a1 af ax;exact QCR
    .have a8:¬(k:Int)<(p.aCM.length:Int):=qo;obtain⟨C,cz⟩:=xE wr;rw[<-cz] at HG B ⊢;clear cz;have dh:=aA (HG.o.aDC bM cv);obtain⟨T,cq⟩:∃T:Option Nat,T=(Value.slice E p.aCY.length z).ownBlock:=⟨_,rfl⟩;have ab:=aA cq;have ck:Hid (∀b,T=some b->some b≠U):=aA (fun b a e=>by
      rcases vK R.o G.o qe with h|h
      .rw[<-ab.o,a] at h;cases h
      .exact h (by rw[<-ab.o,<-ae.o,a];exact e))
     have ad:Hid (∀b,T=some b->d.heap.size<=b/\b<V.heap.size):=aA (fun b a=>R.o.lt b (ab.o▸a));have ao:Hid (∀b,U=some b->d.heap.size<=b/\b<V.heap.size):=aA (fun b a=>G.o.lt b (ae.o▸a));have dc:=aA (R.o.stays (bB lv) B.o (fun b a=>ck.o b (by rw[ab.o];exact a)) (fun b a _ e=>by have h1:=(ao.o b e.symm).1;have h2:=a.2;omega));have A3:=aA (cd.o C B.o);have R3:=qS R2 B.o (fun e=>qA ((ao.o _ e.symm).1));have bp:=aA B.o.size;have cf:=aA (show ∀wr,aN (fun b=>some b≠T) C wr->wr.heap[w.heap.size]? =_ from fun wr h=>aF A3.o h (fun e=>qA ((ad.o _ e.symm).1)));obtain⟨⟨s0,s1,s2,s3,s4,s5,s6⟩,_⟩:=bI A3.o;have sz:=aD A3.o;clear cq;go_wp2;clear s0 s1 s2 s3 s4 s5 s6 sz;go_loopw [5,6,59] (fun _ _ i wr=>∃k:Nat,k<=p.aCY.length/\i=.int .i64 k/\Hid (aM (pZ lv) 7 38 wr d.heap.size (fun b=>(ok b/\b<w.heap.size)\/C.heap.size<=b) (.slice E p.aCY.length z) p.aCY)/\Hid (aN (fun b=>some b≠T) C wr)) (fun _ _ i _=>p.aCY.length - (intOf i).toNat)
     case atStart=>exact⟨0,Nat.zero_le _,rfl,aA (dc.o.aDu (bB lv) (fun b a=> .inl a)),aA (aN.refl _ _)⟩
     case round=>
      clear t au a8;obtain⟨k,t,rfl,ba,S⟩:=hrel;by_cases au:k<p.aCY.length
      .have a8:(k:Int)<(p.aCY.length:Int):=qo;obtain⟨g,r0,e0,ds,m,be,a7,b7⟩:=ba.o.at (bB lv) au qe;subst e0
       rcases lv with _|lv
       .exact be.elim
       obtain⟨fh,fx,fu,fg,rfl,y⟩:=be;obtain⟨K,L,rfl,_⟩:=y.2.2.1.slice;obtain⟨M,N,rfl,_⟩:=y.2.2.2.1.slice;obtain⟨P,Q,rfl,_⟩:=y.2.2.2.2.1.slice;obtain⟨ua,uc,rfl,_⟩:=y.2.2.2.2.2.slice;obtain⟨y0,y1,y2,y3,y4,y5,y6⟩:=CD a7;rw[Nat.add_zero] at y0;have c8:Hid (T=some g):=aA ab.o;have ax:Hid (aM (pZ (lv+1)) 7 38 wr d.heap.size (fun b=>(ok b/\b<w.heap.size)\/C.heap.size<=b) (.slice (some ⟨g,0,none⟩) p.aCY.length z) p.aCY):=aA ba.o;have af:Hid (fM lv wr (fun b=>((ok b/\b<w.heap.size)\/C.heap.size<=b)/\b<wr.heap.size/\b≠g) p.aCY[k] (.slice K p.aCY[k].aCU.length L) (.slice M p.aCY[k].aCM.length N) (.slice P p.aCY[k].aCY.length Q) (.slice ua p.aCY[k].aC0.length uc)):=aA y;have a1:=aA (fun (wq:World) (a:Below wr.heap.size wr wq) (vt vr vk vo:Value)=>Xn (vt:=vt) (vr:=vr) (vk:=vk) (vo:=vo) (ax.o.on (bB (lv+1)) a) au);clear a7 y ba;generalize p.aCY[k]=r at *;obtain⟨j,J⟩:=xE (wr.alloc (.cells (kH r K L M N P Q ua uc) 38));have ai:Below wr.heap.size wr j:=by rw[J];exact aB _ _
       have X:Hid (j.heap[wr.heap.size]? =some (.cells (kH r K L M N P Q ua uc) 38 (0,0))):=aA (by rw[J];exact aK _ _ _ rfl);have br:=aA J;have A:¬w.heap.size=g:=qo;have ak:¬wr.heap.size=g:=qo;have AV:=aA (aE (cf.o wr S.o) ai);have f:=aA ai;have o:Hid (∀w':World,w'.heap[w.heap.size]? =j.heap[w.heap.size]? ->w'.heap[wr.heap.size]? =j.heap[wr.heap.size]? ->w'.cell? ⟨w.heap.size,5,none⟩=some (.slice (some ⟨g,0,none⟩) p.aCY.length z)/\w'.cell? ⟨wr.heap.size,0,none⟩=some (.string r.id)/\w'.cell? ⟨wr.heap.size,1,none⟩=some (.bool r.set)/\w'.cell? ⟨wr.heap.size,2,none⟩=some (.int .i64 r.alg)/\w'.cell? ⟨wr.heap.size,3,none⟩=some (.slice K r.aCU.length L)/\w'.cell? ⟨wr.heap.size,4,none⟩=some (.slice M r.aCM.length N)/\w'.cell? ⟨wr.heap.size,5,none⟩=some (.slice P r.aCY.length Q)/\w'.cell? ⟨wr.heap.size,6,none⟩=some (.slice ua r.aC0.length uc)):=aA (fun w' h1 h2=>by
        rw[AV.o] at h1;rw[X.o] at h2;exact⟨aQ h1 5 _ rfl,aQ h2 0 _ rfl,aQ h2 1 _ rfl,aQ h2 2 _ rfl,aQ h2 3 _ rfl,aQ h2 4 _ rfl,aQ h2 5 _ rfl,aQ h2 6 _ rfl⟩)
       have zA:=aD AV.o;have zX:=aD X.o;have c:Hid (Below j.heap.size j j.drew):=aA (Below.refl _ _).drew;have bl:=aA (fun w' (a:Below j.heap.size j w')=>c1.o lv rfl _ r _ _ _ _ w' (af.o.aCT (aJ (aC f.o a))));unfold DJ at bl;have cw:=o.o j rfl rfl;have H:=aA zA;have I:=aA zX;clear ai J;go_upto_region 11 with (fail)
       rw[<-br.o];obtain⟨ec,ed,ee,ef,eg,eh,ei,ej⟩:=cw;go_region_law
        ((go_simp;go_at_call 163;refine(bl.o _ c.o).mono ?_;rintro e wo ⟨fz,fy,fv,fw,rfl,av,ah⟩;obtain⟨cb,cc,rfl,_⟩:=av.2.2.1.slice;obtain⟨ey,ez,rfl,_⟩:=av.2.2.2.1.slice;obtain⟨et,eu,rfl,_⟩:=av.2.2.2.2.1.slice;obtain⟨b9,ca,rfl,_⟩:=av.2.2.2.2.2.slice;have cm:=aA (fM.inb (av.more (ok':=fun b=>(((ok b/\b<w.heap.size)\/C.heap.size<=b)/\b<wr.heap.size/\b≠g)\/j.heap.size<=b) (fun b a=>a.imp id (fun h=>lT c.o.size h))));replace c:=qB c ah;obtain⟨u1,u2,u3,u4,u5,u6,u7,u8⟩:=o.o _ (c.o.block _ H.o) (c.o.block _ I.o);have s:=wY b7 f.o m c.o;have dz:=lL (lL m f.o.size) c.o.size;have q0:=((c.o.cell (p:=⟨g,k * 7,none⟩) (lL m f.o.size)).trans (f.o.cell (p:=⟨g,k * 7,none⟩) m)).trans y0;have dv:=s (k * 7);have q1:=((c.o.cell (p:=⟨g,k * 7+1,none⟩) (lL m f.o.size)).trans (f.o.cell (p:=⟨g,k * 7+1,none⟩) m)).trans y1;have bw:=s (k * 7+1);have q2:=((c.o.cell (p:=⟨g,k * 7+2,none⟩) (lL m f.o.size)).trans (f.o.cell (p:=⟨g,k * 7+2,none⟩) m)).trans y2;have bx:=s (k * 7+2);have q3:=((c.o.cell (p:=⟨g,k * 7+3,none⟩) (lL m f.o.size)).trans (f.o.cell (p:=⟨g,k * 7+3,none⟩) m)).trans y3;have bz:=s (k * 7+3);have q4:=((c.o.cell (p:=⟨g,k * 7+4,none⟩) (lL m f.o.size)).trans (f.o.cell (p:=⟨g,k * 7+4,none⟩) m)).trans y4;have dw:=s (k * 7+4);have q5:=((c.o.cell (p:=⟨g,k * 7+5,none⟩) (lL m f.o.size)).trans (f.o.cell (p:=⟨g,k * 7+5,none⟩) m)).trans y5;have dx:=s (k * 7+5);have q6:=((c.o.cell (p:=⟨g,k * 7+6,none⟩) (lL m f.o.size)).trans (f.o.cell (p:=⟨g,k * 7+6,none⟩) m)).trans y6;have dy:=s (k * 7+6);clear ah av))
       all_goals
        obtain⟨aw,bs,bn⟩:=aY (aC f.o c.o) S.o.size m;have cn:=cm.o.more (ok':=fun b=>((ok b/\b<w.heap.size)\/C.heap.size<=b)/\b<wo.heap.size/\b≠g) (fun b a=>by
         have h1:=f.o.size;have h2:=bs.o;have h3:=bn.o
         rcases a.1 with h|h
         .exact⟨h.1,a.2,h.2.2⟩
         .exact⟨.inr qo,a.2,qo⟩)
        have HGN:=aA (a1.o wo aw.o _ _ _ _ cn);have n:¬(some g≠T):=fun h=>h c8.o.symm
        have HSN:=aA ((((((((S.o.trans (aJ aw.o)).trans (fF (i:=k * 7) (v:= .string r.id) n)).trans (fF (i:=k * 7+1) (v:= .bool r.set) n)).trans (fF (i:=k * 7+2) (v:= .int .i64 r.alg) n)).trans (fF (i:=k * 7+3) (v:= .slice cb r.aCU.length cc) n)).trans (fF (i:=k * 7+4) (v:= .slice ey r.aCM.length ez) n)).trans (fF (i:=k * 7+5) (v:= .slice et r.aCY.length eu) n)).trans (fF (i:=k * 7+6) (v:= .slice b9 r.aC0.length ca) n));clear n cn cm u1 u2 u3 u4 u5 u6 u7 u8 q0 q1 q2 q3 q4 q5 q6 s dv bw bx bz dw dx dy y0 y1 y2 y3 y4 y5 y6 ec ed ee ef eg eh ei ej c bl o X AV a1 af ax;exact QCR
      .have a8:¬(k:Int)<(p.aCY.length:Int):=qo;obtain rfl:k=p.aCY.length:=qo;have c7:=aA (ba.o.aDC (bB lv) ea);have A4:=aA (cf.o wr S.o);have R4:=qS R3 S.o (fun e=>qA ((ad.o _ e.symm).1));have HBF:=aA (show Below w.heap.size w wr from (((an.o.trans (bc.o.below (fun k t=>⟨qo,fun e=>by omega⟩))).trans (B.o.below (fun k t=>⟨qA aq.o,fun e=>qA ((ao.o _ e.symm).1)⟩))).trans (S.o.below (fun k t=>⟨by have h1:=aq.o;have h2:=bp.o;omega,fun e=>qA ((ad.o _ e.symm).1)⟩))));have ch:Hid (aN (fun b=>w.heap.size+1+1<=b/\b<d.heap.size) d wr):=aA (((bc.o.mono (fun b _ a (e:b=w.heap.size)=>qA a.1)).trans (B.o.mono (fun b _ a e=>by have h1:=(ao.o _ e.symm).1;have h2:=a.2;omega))).trans (S.o.mono (fun b _ a e=>by have h1:=(ad.o _ e.symm).1;have h2:=a.2;omega)));have dk:=aA (aH.aCT aS (aH.inb aS a6.o) ch.o);have dd:=aA (aH.aCT aO (aH.inb aO az.o) ch.o);have di:=aA (aH.aCT bM dh.o (S.o.mono (fun b _ a e=>by
        have a8:=ad.o b e.symm
        rcases a with h|h
        .rcases h.1 with h|h
         .have:=h.2;omega
         .omega
        .exact ck.o b e.symm (by rw[ae.o];exact h))))
       obtain⟨⟨s0,s1,s2,s3,s4,s5,s6⟩,b0,b1,b2,b3,b4,b5,b6⟩:=bI A4.o;have sz:=aD A4.o;obtain⟨⟨r0,r1,r2,r3,r4,r5,r6⟩,f0,f1,f2,f3,f4,f5,f6⟩:=bI R4.o;have rz:=aD R4.o;go_wp2;refine bR (.agg #[.string p.id,.bool p.set,.int .i64 p.alg,.slice Z p.aCU.length aa,.slice F p.aCM.length x,.slice E p.aCY.length z,.slice W p.aC0.length Y]) ?_;have ct:¬(w.heap.size+1+1<=w.heap.size+1/\w.heap.size+1<d.heap.size):=fun h=>qA h.1
       refine⟨_,_,_,_,rfl,⟨HP.o.1,HP.o.2.1,?_,?_,?_,?_⟩,?_⟩
       .refine aH.more aS (ok:=fun b=>w.heap.size+1+1<=b/\b<d.heap.size) ?_ (fun b a=> .inr (qA a.1))
        repeat (refine aH.aCT aS ?_ (fF ct))
        exact dk.o
       .refine aH.more bM (ok:=fun b=>(((ok b/\b<w.heap.size)\/V.heap.size<=b)/\b<C.heap.size/\some b≠(Value.slice F p.aCM.length x).ownBlock)\/some b=(Value.slice F p.aCM.length x).ownBlock) ?_ (fun b a=> ?_)
        .repeat (refine aH.aCT bM ?_ (fF (fun h=> ?_)))
         exact di.o
         all_goals
          rcases h with h|h
          .rcases h.1 with h|h
           .have:=h.2;omega
           .have:=aq.o;omega
          .have:=(ao.o _ (ae.o.trans h.symm)).1;omega
        .rcases a with h|h
         .rcases h.1 with h|h
          .exact .inl h.1
          .exact .inr (qA aq.o)
         .exact .inr (qA ((ao.o _ (ae.o.trans h.symm)).1))
       .refine aH.more (bB lv) (ok:=fun b=>(((ok b/\b<w.heap.size)\/C.heap.size<=b)/\b<wr.heap.size/\some b≠(Value.slice E p.aCY.length z).ownBlock)\/some b=(Value.slice E p.aCY.length z).ownBlock) ?_ (fun b a=> ?_)
        .repeat (refine aH.aCT (bB lv) ?_ (fF (fun h=> ?_)))
         exact c7.o
         all_goals
          rcases h with h|h
          .rcases h.1 with h|h
           .have:=h.2;omega
           .have h1:=aq.o;have h2:=bp.o;omega
          .have:=(ad.o _ (ab.o.trans h.symm)).1;omega
        .rcases a with h|h
         .rcases h.1 with h|h
          .exact .inl h.1
          .exact .inr (by have h1:=aq.o;have h2:=bp.o;omega)
         .exact .inr (qA ((ad.o _ (ab.o.trans h.symm)).1))
       .refine aH.more aO (ok:=fun b=>w.heap.size+1+1<=b/\b<d.heap.size) ?_ (fun b a=> .inr (qA a.1))
        repeat (refine aH.aCT aO ?_ (fF ct))
        exact dd.o
       .exact QCY
theorem BH:∀lv,UD lv
 |0=>yR 0 (fun l h=>by omega)
 |lv+1=>yR (lv+1) (fun l h=>by injection h with h;exact h▸BH lv)
def UE(ok:nP)(s:Sto)(w:World)(e:Ending)(w':World):Prop:=∃(vc vr vn vo vt vu vk vb:Value) (L:List Mix) (m m2:Nat),e=.returned (.agg (aV s vc vr vn vo vt vu vk vb))/\tZ L s.aCK s.aCK.length/\w.heap.size<=m/\m<=m2/\m2<=w'.heap.size/\
 aM (dY m (fun b=>ok b/\b<w.heap.size)) 5 52 w' w.heap.size (fun b=>(ok b/\b<w.heap.size)\/m<=b) vc L/\aM sR 7 179 w' w.heap.size (fun _=>False) vr s.aCO/\aM vV 3 182 w' w.heap.size (fun _=>False) vn s.aCS/\aM qT 2 170 w' w.heap.size (fun _=>False) vo s.aCX/\
 (∀b,vc.ownBlock=some b->b<m)/\(∀b,vr.ownBlock=some b->m<=b/\b<m2)/\(∀b,vn.ownBlock=some b->m<=b/\b<m2)/\(∀b,vo.ownBlock=some b->m<=b/\b<m2)/\fM 3 w' (fun b=>(ok b/\b<w.heap.size)\/m2<=b) s.aCL vt vu vk vb/\Below w.heap.size w w'/\(∀j (hj:j<L.length),(∀a b,L[j].2.1=some a->a.ownBlock=some b->b<m2)/\(∀a b,L[j].2.2=some a->a.ownBlock=some b->b<m2))
theorem XU{ok:nP}(s:Sto)(vc vr vn vo vt vu vk vb:Value)(w:World)(h:eZ w ok s vc vr vn vo vt vu vk vb):Calls prog 104 #[.agg (aV s vc vr vn vo vt vu vk vb)] w (UE ok s w):=by
 obtain⟨ca,cc,ra,rc,na,nc,oa,oc,ta,tc,ua,uc,ka,kc,ba,bc,rfl,_,rfl,_,rfl,_,rfl,_,rfl,_,rfl,_,rfl,_,rfl,_⟩:=h.sl;obtain⟨O1,b9⟩:∃O:Obj,O=.cells (fS s ca cc ra rc na nc oa oc ta tc ua uc ka kc ba bc) 40:=⟨_,rfl⟩;obtain⟨O2,du⟩:∃O:Obj,O=.cells xG 40:=⟨_,rfl⟩;obtain⟨W0,bf⟩:=xE ((w.alloc O1).alloc O2);have ai:=aA (bf▸JZ w O1 O2:Kq w w.heap.size (w.heap.size+1) O1 O2 W0);have bx:Hid (∀w',Kq w w.heap.size (w.heap.size+1) O1 O2 w'->(w'.cell? ⟨w.heap.size,0,none⟩=some (.int .i64 s.aCR)/\w'.cell? ⟨w.heap.size,1,none⟩=some (.slice ca s.aCK.length cc)/\w'.cell? ⟨w.heap.size,2,none⟩=some (.slice ra s.aCO.length rc)/\w'.cell? ⟨w.heap.size,3,none⟩=some (.slice na s.aCS.length nc)/\w'.cell? ⟨w.heap.size,4,none⟩=some (.slice oa s.aCX.length oc)/\w'.cell? ⟨w.heap.size,5,none⟩=some (.string s.aCL.id)/\w'.cell? ⟨w.heap.size,6,none⟩=some (.bool s.aCL.set)/\w'.cell? ⟨w.heap.size,7,none⟩=some (.int .i64 s.aCL.alg)/\w'.cell? ⟨w.heap.size,8,none⟩=some (.slice ta s.aCL.aCU.length tc)/\w'.cell? ⟨w.heap.size,9,none⟩=some (.slice ua s.aCL.aCM.length uc)/\w'.cell? ⟨w.heap.size,10,none⟩=some (.slice ka s.aCL.aCY.length kc)/\w'.cell? ⟨w.heap.size,11,none⟩=some (.slice ba s.aCL.aC0.length bc)/\w'.cell? ⟨w.heap.size,12,none⟩=some (.int .i64 s.aCW))/\w'.frozen? ⟨w.heap.size,1,none⟩=false/\w.heap.size<w'.heap.size):=aA (fun w' hk=>by
  have h:=hk.2.1;rw[b9] at h;exact⟨(bS h).1,aR h 1,aD h⟩)
 have db:Hid (∀w',Kq w w.heap.size (w.heap.size+1) O1 O2 w'->w.heap.size+1+1<=w'.heap.size):=aA (fun w' hk=>qA (aD hk.2.2));have hs:=h.inb;obtain⟨HS,HC,dj⟩:=aY hs (CR _ s.aCK W0 (aH.on dK hs.aCK ai.o.1)) bf;have ew:s.aCK.length<=1000000:=by obtain⟨_,_,_,h4⟩:=h.aCK.slice;exact h4
 unfold bV at HC;unfold aV;obtain⟨⟨c0,c1,c2,c3,c4,c5,A,C,D,c9,y,z,c12⟩,d1,dz⟩:=bx.o _ ai.o;clear h hs bf;subst b9 du;go_enter func104,ntmps104;go_upto_region 1 with (fail)
 rw[<-dj.o];go_wp2_with fail;refine HC.o.mono ?_;rintro e wc ⟨v_,rfl,t,f⟩;obtain⟨H,G,rfl⟩:=t.slice;have aq:=aA (aM.less t (db.o _ ai.o));have HK:=aA (Kq.on ai.o f);clear f t HC c0 c1 c2 c3 c4 c5 A C D c9 y z c12 d1 dz;obtain⟨⟨c0,c1,c2,c3,c4,c5,A,C,D,c9,y,z,c12⟩,d1,dz⟩:=bx.o _ HK.o;obtain⟨o,af⟩:=xE (wc.setCell ⟨w.heap.size,1,none⟩ (.slice H s.aCK.length G));have A1:Hid (o.heap[w.heap.size]? =some (.cells (fS s H G ra rc na nc oa oc ta tc ua uc ka kc ba bc) 40 (0,0))):=aA (by rw[af];exact aG HK.o.2.1 1 _);have R1:Hid (o.heap[w.heap.size+1]? =some (.cells xG 40 (0,0))):=aA (by rw[af];exact bE HK.o.2.2 qo);have GC:Hid (aM pW 5 52 o (w.heap.size+1+1) (fun b=>ok b/\b<w.heap.size) (.slice H s.aCK.length G) s.aCK):=aA (by rw[af];exact aM.off dK aq.o (fun h=>qA h.2) (fun h=>qA ((aq.o.lt _ h).1)));have bt:Hid (Below w.heap.size w o):=aA (by rw[af];exact HK.o.1.setCell (by first|exact lR _|exact Nat.le_succ _) _);have dk:=aA af;go_upto_region 2 with (fail)
 rw[<-dk.o];clear af c0 c1 c2 c3 c4 c5 A C D c9 y z c12 d1 dz aq;have fe:w.heap.size+1<o.heap.size:=aD R1.o;obtain⟨Y,b8⟩:∃Y:Option Nat,Y=(Value.slice H s.aCK.length G).ownBlock:=⟨_,rfl⟩;have Z:=aA b8;have M:Hid (∀b,Y=some b->w.heap.size+1+1<=b/\b<o.heap.size):=aA (fun b d=>GC.o.lt b (Z.o▸d));have bs:=aA (show ∀wr,aN (fun b=>some b≠Y) o wr->wr.heap[w.heap.size]? =_ from fun wr h=>aF A1.o h (fun e=>qA ((M.o _ e.symm).1)));have de:=aA (OH (b2:=o.heap.size) GC.o (fun b d=>⟨qA d.2,fun e=>qD ((M.o b (Z.o.trans e.symm)).1) d.2⟩));obtain⟨⟨c0,c1,c2,c3,c4,c5,A,C,D,c9,y,z,c12⟩,_⟩:=bS A1.o;have cz:=aD A1.o;clear b8;go_wp2;clear c0 c1 c2 c3 c4 c5 A C D c9 y z c12 cz;go_loopw [3,4,12] (fun _ _ i wr=>∃(k:Nat) (L:List Mix),k<=s.aCK.length/\i=.int .i64 k/\Hid (tZ L s.aCK k)/\Hid (aM (dY o.heap.size (fun b=>ok b/\b<w.heap.size)) 5 52 wr (w.heap.size+1+1) (fun b=>(ok b/\b<w.heap.size)\/o.heap.size<=b) (.slice H s.aCK.length G) L)/\Hid (aN (fun b=>some b≠Y) o wr)) (fun _ _ i _=>s.aCK.length - (intOf i).toNat)
 case atStart=>exact⟨0,_,Nat.zero_le _,rfl,aA (QN s.aCK),aA (de.o.aDu (dP _ _) (fun b d=> .inl d)),aA (aN.refl _ _)⟩
 case round=>
  obtain⟨k,L,hk,rfl,aj,J,P⟩:=hrel;have dd:=aA aj.o.len;by_cases ee:k<s.aCK.length
  .have ed:(k:Int)<(s.aCK.length:Int):=qo;have bd:k<L.length:=by rw[dd.o];exact ee
   obtain⟨g,r0,e0,ev,E,ef,cd,ec⟩:=J.o.at (dP _ _) bd qe;subst e0;obtain⟨vf,vl,rfl,al⟩:=ef;obtain⟨fa,fc,rfl,cf⟩:=al.2.2.2.1.slice bP;obtain⟨la,lc,rfl,cg⟩:=al.2.2.2.2.slice bW;obtain⟨y0,y1,y2,y3,y4⟩:=FM cd;rw[Nat.add_zero] at y0;have cr:Hid (Y=some g):=aA Z.o;have aa:=aA al;have b0:=aA (KA J.o);have b7:=aA (fun (u v:Value) (hu:∀b,u.ownBlock=some b->wr.heap.size<=b) (hv:∀b,v.ownBlock=some b->wr.heap.size<=b)=>aj.o.step bd b0.o hu hv);have b6:=aA (fun (wq:World) (d:Below wr.heap.size wr wq) (u v:Value) (hu:eY lE 4 196 o.heap.size (fun b=>ok b/\b<w.heap.size) wq (fun b=>((ok b/\b<w.heap.size)\/o.heap.size<=b)/\b<wq.heap.size/\b≠g) (some u) u L[k].1.aCP) (hv:eY mS 3 54 o.heap.size (fun b=>ok b/\b<w.heap.size) wq (fun b=>((ok b/\b<w.heap.size)\/o.heap.size<=b)/\b<wq.heap.size/\b≠g) (some v) v L[k].1.log)=>Uq (J.o.on (dP _ _) d) bd hu hv);clear cd al J aj;generalize L[k]=x at *;obtain⟨c,xf,xl⟩:=x;dsimp only at y0 y1 y2 y3 y4 cg cf;obtain⟨F,an⟩:=xE (wr.alloc (.cells (oW c fa fc la lc) 52));have a8:Below wr.heap.size wr F:=by rw[an];exact aB _ _
   have X:Hid (F.heap[wr.heap.size]? =some (.cells (oW c fa fc la lc) 52 (0,0))):=aA (by rw[an];exact aK _ _ _ rfl);have di:=aA an;have ey:¬w.heap.size=g:=qo;have ez:¬wr.heap.size=g:=qo;have AV:=aA (aE (bs.o wr P.o) a8);have m:=aA a8;have ax:Hid (∀w':World,w'.heap[w.heap.size]? =F.heap[w.heap.size]? ->w'.heap[wr.heap.size]? =F.heap[wr.heap.size]? ->w'.cell? ⟨w.heap.size,1,none⟩=some (.slice (some ⟨g,0,none⟩) s.aCK.length G)/\w'.cell? ⟨wr.heap.size,0,none⟩=some (.string c.id)/\w'.cell? ⟨wr.heap.size,1,none⟩=some (.string c.aDb)/\w'.cell? ⟨wr.heap.size,2,none⟩=some (.string c.aC5)/\w'.cell? ⟨wr.heap.size,3,none⟩=some (.slice fa c.aCP.length fc)/\w'.cell? ⟨wr.heap.size,4,none⟩=some (.slice la c.log.length lc)):=aA (fun w' h1 h2=>by
    rw[AV.o] at h1;rw[X.o] at h2;exact⟨aQ h1 1 _ rfl,aQ h2 0 _ rfl,aQ h2 1 _ rfl,aQ h2 2 _ rfl,aQ h2 3 _ rfl,aQ h2 4 _ rfl⟩)
   have zA:=aD AV.o;have zX:=aD X.o;have q:Hid (Below F.heap.size F F.drew):=aA (Below.refl _ _).drew;have ct:Hid (oT wr (fun _=>True) c (.slice fa c.aCP.length fc) (.slice la c.log.length lc)):=aA ⟨aa.o.1,aa.o.2.1,aa.o.2.2.1,aH.more bP (aa.o.2.2.2.1.sl bP) (fun _ _=>trivial),aH.more bW (aa.o.2.2.2.2.sl bW) (fun _ _=>trivial)⟩;have ar:=aA (fun w' (d:Below F.heap.size F w')=>FQ c _ _ w' (ct.o.aCT (aJ (aC m.o d))));unfold xT TJ at ar;obtain⟨el,en,eo,ep,er,et⟩:=ax.o F rfl rfl;obtain⟨dp,dq,dc,cu⟩:=dD zA zX cg cf;clear a8 an;go_upto_region 5 with (fail)
   rw[<-di.o];go_region_law
    ((go_simp;go_at_call 110;refine(ar.o _ q.o).mono ?_;rintro e wo ⟨fk,fm,rfl,bb,I,cb⟩;obtain⟨a6,a7,rfl⟩:=bb.slice;obtain⟨bj,bk,rfl⟩:=I.slice;have au:=aA (aM.less (eI (enc:=tV) (good:=EJ) (ok':=fun _=>False) bb) q.o.size);have av:=aA (aM.less (eI (enc:=CG) (good:=vJ) (ok':=fun _=>False) I) q.o.size);replace q:=qB q cb;obtain⟨u1,u2,u3,u4,u5,u6⟩:=ax.o _ (q.o.block _ dp.o) (q.o.block _ dq.o);have ad:=wY ec m.o E q.o;have fb:=lL (lL E m.o.size) q.o.size;have q0:=((q.o.cell (p:=⟨g,k * 5,none⟩) (lL E m.o.size)).trans (m.o.cell (p:=⟨g,k * 5,none⟩) E)).trans y0;have dw:=ad (k * 5);have q1:=((q.o.cell (p:=⟨g,k * 5+1,none⟩) (lL E m.o.size)).trans (m.o.cell (p:=⟨g,k * 5+1,none⟩) E)).trans y1;have dx:=ad (k * 5+1);have q2:=((q.o.cell (p:=⟨g,k * 5+2,none⟩) (lL E m.o.size)).trans (m.o.cell (p:=⟨g,k * 5+2,none⟩) E)).trans y2;have dy:=ad (k * 5+2);have q3:=((q.o.cell (p:=⟨g,k * 5+3,none⟩) (lL E m.o.size)).trans (m.o.cell (p:=⟨g,k * 5+3,none⟩) E)).trans y3;have ea:=ad (k * 5+3);have q4:=((q.o.cell (p:=⟨g,k * 5+4,none⟩) (lL E m.o.size)).trans (m.o.cell (p:=⟨g,k * 5+4,none⟩) E)).trans y4;have eb:=ad (k * 5+4);clear cb I bb))
   all_goals
    obtain⟨bw,ay,cx⟩:=aY (aC m.o q.o) P.o.size E;have be:∀v:Value,(∀b,v.ownBlock=some b->F.heap.size<=b/\b<wo.heap.size)->∀b,v.ownBlock=some b->((ok b/\b<w.heap.size)\/o.heap.size<=b)/\b<wo.heap.size/\b≠g:=fun v hv b d=>by
     have h6:=hv b d;have h7:=m.o.size;have h8:=ay.o;have h9:=cx.o;exact⟨.inr qo,h6.2,qo⟩
    have HGN:=aA (b6.o wo bw.o (.slice a6 c.aCP.length a7) (.slice bj c.log.length bk) ⟨rfl,aM.less au.o (lT ay.o m.o.size),be _ au.o.lt,cu.o⟩ ⟨rfl,aM.less av.o (lT ay.o m.o.size),be _ av.o.lt,dc.o⟩);have HMN:=aA (b7.o (.slice a6 c.aCP.length a7) (.slice bj c.log.length bk) (fun b d=>lT m.o.size (au.o.lt b d).1) (fun b d=>lT m.o.size (av.o.lt b d).1));have I:¬(some g≠Y):=fun h=>h cr.o.symm
    have HSN:=aA ((((((P.o.trans (aJ bw.o)).trans (fF (i:=k * 5) (v:= .string c.id) I)).trans (fF (i:=k * 5+1) (v:= .string c.aDb) I)).trans (fF (i:=k * 5+2) (v:= .string c.aC5) I)).trans (fF (i:=k * 5+3) (v:= .slice a6 c.aCP.length a7) I)).trans (fF (i:=k * 5+4) (v:= .slice bj c.log.length bk) I));clear I be u1 u2 u3 u4 u5 u6 q0 q1 q2 q3 q4 ad dw dx dy ea eb y0 y1 y2 y3 y4 el en eo ep er et q ar ax X AV b6 b7 aa b0;exact QCN
  .have ed:¬(k:Int)<(s.aCK.length:Int):=qo;obtain rfl:k=s.aCK.length:=qo;obtain⟨n,cj⟩:=xE wr;rw[<-cj] at J P ⊢;clear cj;have W:=aA (bs.o n P.o);have R3:=qS R1 P.o (fun e=>qA ((M.o _ e.symm).1));have r:=aA P.o.size;have ag:=aA (bt.o.trans (P.o.below (B:=w.heap.size) (fun b d=>⟨qo,fun e=>qA ((M.o _ e.symm).1)⟩)));have b4:=aA (fun w' (d:Below n.heap.size n w')=>CT _ s.aCO w' (aH.on cT HS.o.aCO (aC ag.o d)));have b1:=aA (fun w' (d:Below n.heap.size n w')=>CU _ s.aCS w' (aH.on dZ HS.o.aCS (aC ag.o d)));have b3:=aA (fun w' (d:Below n.heap.size n w')=>TE _ s.aCX w' (aH.on dA HS.o.aCX (aC ag.o d)));have ah:Hid (∀w',Below n.heap.size n w'->(w'.cell? ⟨w.heap.size,0,none⟩=some (.int .i64 s.aCR)/\w'.cell? ⟨w.heap.size,1,none⟩=some (.slice H s.aCK.length G)/\w'.cell? ⟨w.heap.size,2,none⟩=some (.slice ra s.aCO.length rc)/\w'.cell? ⟨w.heap.size,3,none⟩=some (.slice na s.aCS.length nc)/\w'.cell? ⟨w.heap.size,4,none⟩=some (.slice oa s.aCX.length oc)/\w'.cell? ⟨w.heap.size,5,none⟩=some (.string s.aCL.id)/\w'.cell? ⟨w.heap.size,6,none⟩=some (.bool s.aCL.set)/\w'.cell? ⟨w.heap.size,7,none⟩=some (.int .i64 s.aCL.alg)/\w'.cell? ⟨w.heap.size,8,none⟩=some (.slice ta s.aCL.aCU.length tc)/\w'.cell? ⟨w.heap.size,9,none⟩=some (.slice ua s.aCL.aCM.length uc)/\w'.cell? ⟨w.heap.size,10,none⟩=some (.slice ka s.aCL.aCY.length kc)/\w'.cell? ⟨w.heap.size,11,none⟩=some (.slice ba s.aCL.aC0.length bc)/\w'.cell? ⟨w.heap.size,12,none⟩=some (.int .i64 s.aCW))/\w'.frozen? ⟨w.heap.size,2,none⟩=false/\w'.frozen? ⟨w.heap.size,3,none⟩=false/\w'.frozen? ⟨w.heap.size,4,none⟩=false/\w.heap.size<w'.heap.size):=aA (fun w' d=>by
    have h:=aE W.o d;exact⟨(bS h).1,aR h 2,aR h 3,aR h 4,aD h⟩)
   unfold bV at b4 b1 b3;have cy:=aA (Below.refl n.heap.size n);go_upto_region 7 with (fail)
   go_cut [2] from 24 to 35 (fun v w'=>∃(U Q S:oD) (V R T:Nat),v=.pointer (some ⟨w.heap.size+1,0,none⟩)/\Hid (w'.heap[w.heap.size]? =some (.cells (fS s H G U V Q R S T ta tc ua uc ka kc ba bc) 40 (0,0)))/\Hid (w'.heap[w.heap.size+1]? =some (.cells xG 40 (0,0)))/\Hid (aM sR 7 179 w' n.heap.size (fun _=>False) (.slice U s.aCO.length V) s.aCO)/\Hid (aM vV 3 182 w' n.heap.size (fun _=>False) (.slice Q s.aCS.length R) s.aCS)/\Hid (aM qT 2 170 w' n.heap.size (fun _=>False) (.slice S s.aCX.length T) s.aCX)/\Hid (aN (fun b=>b≠w.heap.size) n w'))
   case first=>
    obtain⟨⟨c0,c1,c2,c3,c4,c5,A,C,D,c9,y,z,c12⟩,d2,d3,d4,dz⟩:=ah.o _ cy.o;have l:=aA (Below.refl n.heap.size n).drew;go_region_law
     ((first
     |(go_simp;go_at_call 100;refine(b4.o _ l.o).mono ?_;rintro e w_ ⟨v_,rfl,t,f⟩;obtain⟨U,V,rfl⟩:=t.slice;have GR:=aA (aM.less (eI (enc:=JQ) (good:=EK) (ok':=fun _=>False) t) l.o.size);replace l:=qB l f;obtain⟨⟨c0,c1,c2,c3,c4,c5,A,C,D,c9,y,z,c12⟩,d2,d3,d4,dz⟩:=ah.o _ l.o;clear f t)
     |(go_simp;go_at_call 101;refine(b1.o _ l.o).mono ?_;rintro e w_ ⟨v_,rfl,t,f⟩;obtain⟨Q,R,rfl⟩:=t.slice;have GN:=aA (aM.less (eI (enc:=JR) (good:=EL) (ok':=fun _=>False) t) l.o.size);replace GR:=aA (GR.o.on cT f);replace l:=qB l f;obtain⟨⟨c0,c1,c2,c3,c4,c5,A,C,D,c9,y,z,c12⟩,d2,d3,d4,dz⟩:=ah.o _ l.o;clear f t)
     |(go_simp;go_at_call 162;refine(b3.o _ l.o).mono ?_;rintro e w_ ⟨v_,rfl,t,f⟩;obtain⟨S,T,rfl⟩:=t.slice;have K:=aA (aM.less (eI (enc:=SO) (good:=MF) (ok':=fun _=>False) t) l.o.size);replace GR:=aA (GR.o.on cT f);replace GN:=aA (GN.o.on dZ f);replace l:=qB l f;obtain⟨⟨c0,c1,c2,c3,c4,c5,A,C,D,c9,y,z,c12⟩,d2,d3,d4,dz⟩:=ah.o _ l.o;clear f t)))
    all_goals
     go_wp2;go_meet;have eu:w.heap.size+1<n.heap.size:=qA r.o;refine⟨U,Q,S,V,R,T,rfl,aA ?_,aA ?_,aA ?_,aA ?_,aA ?_,aA ?_⟩
     .first
      |exact aG (aG (aG (aE W.o l.o) 2 _) 3 _) 4 _
      |exact aG (aG (aG (aE W.o l.o) 2 _) 4 _) 3 _
      |exact aG (aG (aG (aE W.o l.o) 3 _) 2 _) 4 _
      |exact aG (aG (aG (aE W.o l.o) 3 _) 4 _) 2 _
      |exact aG (aG (aG (aE W.o l.o) 4 _) 2 _) 3 _
      |exact aG (aG (aG (aE W.o l.o) 4 _) 3 _) 2 _
     .exact bE (bE (bE (aE R3.o l.o) qo) qo) qo
     .exact QCS
     .exact QCT
     .repeat (refine aM.off dA ?_ (fun h=>h) (fun h=>qA ((K.o.lt _ h).1)))
      exact K.o
     .exact(aJ l.o).trans (((aI _).trans (aI _)).trans (aI _))
   case rest=>
    obtain⟨U,Q,S,V,R,T,hv,A4,R4,GR,GN,K,ak⟩:=hcut;subst hv;obtain⟨W4,ck⟩:=xE wc;rw[<-ck] at A4 R4 GR GN K ak ⊢;clear ck;have ab:=aA ak.o.size;have bu:=aA (ag.o.trans (ak.o.below (B:=w.heap.size) (fun b d=>⟨qA r.o,fun e=>by omega⟩)));have bz:=aA (J.o.stays (dP _ _) ak.o (fun b d (e:b=w.heap.size)=>qA ((M.o _ (Z.o.trans d)).1)) (fun b d _ (e:b=w.heap.size)=>by rcases d with h|h<;>omega));have ch:fM 3 W4 (fun b=>ok b/\b<w.heap.size) s.aCL (.slice ta s.aCL.aCU.length tc) (.slice ua s.aCL.aCM.length uc) (.slice ka s.aCL.aCY.length kc) (.slice ba s.aCL.aC0.length bc):=HS.o.aCL.aCT (aJ bu.o);have aw:=aA (BH 3 _ s.aCL _ _ _ _ W4 ch);unfold DJ at aw;have da:=aA (fun j (hj:j<L.length)=>(⟨fun a b h1 h2=>lL ((KA J.o j hj).1 a b h1 h2) ab.o,fun a b h1 h2=>lL ((KA J.o j hj).2 a b h1 h2) ab.o⟩:(∀a b,L[j].2.1=some a->a.ownBlock=some b->b<W4.heap.size)/\(∀a b,L[j].2.2=some a->a.ownBlock=some b->b<W4.heap.size)));clear ch J;obtain⟨⟨c0,c1,c2,c3,c4,c5,A,C,D,c9,y,z,c12⟩,_⟩:=bS A4.o;have cz:=aD A4.o;go_wp2_with fail;refine aw.o.mono ?_;rintro e w5 ⟨fo,fp,fl,fj,rfl,ae,f⟩;obtain⟨bl,bm,rfl,_⟩:=ae.2.2.1.slice;obtain⟨bn,bo,rfl,_⟩:=ae.2.2.2.1.slice;obtain⟨bg,bh,rfl,_⟩:=ae.2.2.2.2.1.slice;obtain⟨az,a1,rfl,_⟩:=ae.2.2.2.2.2.slice;obtain⟨df,cp,A5,R5,br,bp,bq,cv⟩:=RS ae (aC bu.o f) (aE A4.o f) (aE R4.o f) (GR.o.on cT f) (GN.o.on dZ f) (K.o.on dA f) (bz.o.on (dP _ _) f);have b5:=aA f.size;clear f ae aw bz c0 c1 c2 c3 c4 c5 A C D c9 y z c12 cz;obtain⟨⟨c0,c1,c2,c3,c4,c5,A,C,D,c9,y,z,c12⟩,e0,e1,e2,e3,e4,e5,e6,e7,e8,e9,dr,ds,dt⟩:=bS A5.o
    have cz:=aD A5.o;obtain⟨W6,ao⟩:=xE (((((((w5.setCell ⟨w.heap.size,5,none⟩ (.string s.aCL.id)).setCell ⟨w.heap.size,6,none⟩ (.bool s.aCL.set)).setCell ⟨w.heap.size,7,none⟩ (.int .i64 s.aCL.alg)).setCell ⟨w.heap.size,8,none⟩ (.slice bl s.aCL.aCU.length bm)).setCell ⟨w.heap.size,9,none⟩ (.slice bn s.aCL.aCM.length bo)).setCell ⟨w.heap.size,10,none⟩ (.slice bg s.aCL.aCY.length bh)).setCell ⟨w.heap.size,11,none⟩ (.slice az s.aCL.aC0.length a1));have dm:=aA ao;have A6:Hid (W6.heap[w.heap.size]? =some (.cells (fS s H G U V Q R S T bl bm bn bo bg bh az a1) 40 (0,0))):=aA (by rw[ao];exact aG (aG (aG (aG (aG (aG (aG A5.o 5 _) 6 _) 7 _) 8 _) 9 _) 10 _) 11 _);have N:Hid (aN (fun b=>b≠w.heap.size) w5 W6):=aA (by rw[ao];exact((((((aI _).trans (aI _)).trans (aI _)).trans (aI _)).trans (aI _)).trans (aI _)).trans (aI _));have R6:=qS R5 N.o qo;have cn:=aA (br.o.stays cT N.o (fun b d (e:b=w.heap.size)=>qD ((br.o.lt b d).1) r.o) (fun b d _=>d.elim));have cl:=aA (bp.o.stays dZ N.o (fun b d (e:b=w.heap.size)=>qD ((bp.o.lt b d).1) r.o) (fun b d _=>d.elim));have cm:=aA (bq.o.stays dA N.o (fun b d (e:b=w.heap.size)=>qD ((bq.o.lt b d).1) r.o) (fun b d _=>d.elim));have cw:=aA (cv.o.stays (dP _ _) N.o (fun b d (e:b=w.heap.size)=>qA ((M.o _ (Z.o.trans d)).1)) (fun b d _ (e:b=w.heap.size)=>by rcases d with h|h<;>omega));have cq:=aA (cp.o.trans (N.o.below (B:=w.heap.size) (fun b d=>⟨by have h1:=r.o;have h2:=ab.o;have h3:=b5.o;omega,fun e=>by omega⟩)));have dn:=aA N.o.size;have dh:=aA (fM.aCT (df.o.more (ok':=fun b=>(ok b/\b<w.heap.size)\/W4.heap.size<=b) (fun b d=>d)) (N.o.mono (fun b _ d (e:b=w.heap.size)=>by have h1:=r.o;have h2:=ab.o;rcases d with h|h<;>omega)))
    go_upto_region 9 with (fail)
    rw[<-dm.o];clear ao c0 c1 c2 c3 c4 c5 A C D c9 y z c12 e0 e1 e2 e3 e4 e5 e6 e7 e8 e9 dr ds dt cz;obtain⟨⟨c0,c1,c2,c3,c4,c5,A,C,D,c9,y,z,c12⟩,_⟩:=bS A6.o;have cz:=aD A6.o;obtain⟨⟨r0,r1,r2,r3,r4,r5,r6,r7,r8,r9,ff,fg,fh⟩,f0,f1,f2,f3,f4,f5,f6,f7,f8,f9,f10,f11,f12⟩:=bS R6.o;have rz:=aD R6.o;go_wp2;refine bR (.agg #[.int .i64 s.aCR,.slice H s.aCK.length G,.slice U s.aCO.length V,.slice Q s.aCS.length R,.slice S s.aCX.length T,.string s.aCL.id,.bool s.aCL.set,.int .i64 s.aCL.alg,.slice bl s.aCL.aCU.length bm,.slice bn s.aCL.aCM.length bo,.slice bg s.aCL.aCY.length bh,.slice az s.aCL.aC0.length a1,.int .i64 s.aCW]) ?_;have eh:¬((ok (w.heap.size+1)/\w.heap.size+1<w.heap.size)\/o.heap.size<=w.heap.size+1):=fun h=>by
     rcases h with h|h
     .have:=h.2;omega
     .omega
    have ej:¬((ok (w.heap.size+1)/\w.heap.size+1<w.heap.size)\/W4.heap.size<=w.heap.size+1):=fun h=>by
     rcases h with h|h
     .have:=h.2;omega
     .have h1:=r.o;have h2:=ab.o;omega
    have dv:(Value.slice H s.aCK.length G).ownBlock≠some (w.heap.size+1):=fun h=>qA ((M.o _ (Z.o.trans h)).1)
    have ek:(Value.slice U s.aCO.length V).ownBlock≠some (w.heap.size+1):=fun h=>qD ((GR.o.lt _ h).1) r.o
    have eg:(Value.slice Q s.aCS.length R).ownBlock≠some (w.heap.size+1):=fun h=>qD ((GN.o.lt _ h).1) r.o
    have ei:(Value.slice S s.aCX.length T).ownBlock≠some (w.heap.size+1):=fun h=>qD ((K.o.lt _ h).1) r.o
    have hle:w.heap.size<=n.heap.size:=qA r.o;refine⟨_,_,_,_,_,_,_,_,L,o.heap.size,W4.heap.size,rfl,aj.o,bt.o.size,lT r.o ab.o,?_,?_,aM.less ?_ hle,aM.less ?_ hle,aM.less ?_ hle,fun b d=>(M.o _ (Z.o.trans d)).2,fun b d=>⟨lT r.o (GR.o.lt b d).1,(GR.o.lt b d).2⟩,fun b d=>⟨lT r.o (GN.o.lt b d).1,(GN.o.lt b d).2⟩,fun b d=>⟨lT r.o (K.o.lt b d).1,(K.o.lt b d).2⟩,?_,?_,da.o⟩
    .simp only[jL];exact lT b5.o dn.o
    .refine aM.less (base:=w.heap.size+1+1) ?_ qo
     repeat (refine aM.off (dP _ _) ?_ eh dv)
     exact cw.o
    .repeat (refine aM.off cT ?_ (fun h=>h) ek)
     exact cn.o
    .repeat (refine aM.off dZ ?_ (fun h=>h) eg)
     exact cl.o
    .repeat (refine aM.off dA ?_ (fun h=>h) ei)
     exact cm.o
    .repeat (refine fM.aCT ?_ (fF ej))
     exact dh.o
    .repeat (refine Below.setCell ?_ (by first|exact lR _|exact Nat.le_succ _) _)
     exact cq.o
theorem AF{w:World}{base b2:Nat}{N:nP}{ok:nP}{e:TypeId}{v:Value}{L:List Mix}(h:aM (dY b2 N) 5 e w base ok v L):∀j (hj:j<L.length),(∀b,bO L[j].2.1=some b->b2<=b/\b<w.heap.size)/\(∀b,bO L[j].2.2=some b->b2<=b/\b<w.heap.size):=fun j hj=>
 ⟨fun b a=>by obtain⟨u,hu,c⟩:=cM.1 a;exact((kE h hj).1 u hu).1.lt b c,fun b a=>by obtain⟨u,hu,c⟩:=cM.1 a;exact((kE h hj).2 u hu).1.lt b c⟩
theorem KJ{w:World}{base b2:Nat}{N N':nP}{ok ok':nP}{e:TypeId}{v:Value}{L:List Mix}(h:aM (dY b2 N) 5 e w base ok v L)(a:base<=b2)(d:∀b,N b->N' b)(hm:∀b,ok b->ok' b)(c:∀b,N' b->ok' b/\b<w.heap.size/\some b≠v.ownBlock):aM (dY base N') 5 e w base ok' v L:=by
 obtain⟨cs,h1,h2⟩:=h;exact⟨cs,h1,h2.mono fun r x f=>OJ ((dP _ _).more f fun b a=>⟨hm b a.1,a.2⟩) a d (fun b a=>⟨c b a,(c b a).2.1⟩)⟩
theorem Ur{ok:nP}{s:Sto}{vc vr vn vo vt vu vk vb:Value}{w w':World}{e:Ending}(h:eZ w ok s vc vr vn vo vt vu vk vb)(hp:UB ok s vo vt vu vk vb w e w'):∃c f d L,e=.returned (.agg (aV s c f d vo vt vu vk vb))/\bC (fun b=>ok b/\b<w.heap.size) w.heap.size w' s L none c f d vo vt vu vk vb/\Below w.heap.size w w':=by
 obtain⟨c,f,d,L,m,he,hm,h1,h2,g,n,l,c1,c2,c3,a⟩:=hp;have o:=h.inb.on a;have k:∀(v:Value),(∀b,v.ownBlock=some b->w.heap.size<=b)->∀b,b<w.heap.size->some b≠v.ownBlock:=fun v q b a e=>qA (q b e.symm)
 have p:=k c (fun b a=>(g.lt b a).1);refine⟨c,f,d,L,he,?_,a⟩;exact {aCR:=h.aCR,aCW:=h.aCW,all:=hm.all,aDd:=fun j hj=>hm.done j hj (by rw[<-hm.len];exact hj),apart:=hm.apart,aCK:=KJ g h1 (fun b a=>a) (fun b a=>a.imp id (fun h=>lT h1 h)) (fun b a=>⟨.inl a,lL a.2 (lT h1 h2),p b a.2⟩),aCO:=n,aCS:=l,aCX:=⟨o.aCX,fun b a=>⟨.inl a,lL a.2 (lT h1 h2)⟩⟩,aCL:=o.aCL,kept:=fun b a=>⟨lL a.2 (lT h1 h2),p b a.2,k f (fun b a=>(n.lt b a).1) b a.2,k d (fun b a=>(l.lt b a).1) b a.2,by simp[bO]⟩,aDe:=fun j hj=>⟨fun b a i=>qD (((AF g j hj).1 b a).1) i.2,fun b a i=>qD (((AF g j hj).2 b a).1) i.2⟩,size:=lT h1 h2}
theorem Us{ok:nP}{s:Sto}{w w':World}{e:Ending}(x:bK s.aCR)(k:bK s.aCW)(r:s.aCX.length<=1000000)(hp:UE ok s w e w'):∃vc vr vn vo vt vu vk vb L m,e=.returned (.agg (aV s vc vr vn vo vt vu vk vb))/\w.heap.size<=m/\bC (fun b=>(ok b/\b<w.heap.size)\/(m<=b/\b<w'.heap.size)) w.heap.size w' s L (some vo) vc vr vn vo vt vu vk vb/\(∀j (hj:j<L.length),L[j].2.1.isSome=true)/\Below w.heap.size w w':=by
 obtain⟨vc,vr,vn,vo,vt,vu,vk,vb,L,m,m2,he,hm,h1,h2,h3,d,p,o,i,c1,c2,c3,c4,hp,a,l⟩:=hp;have t:=a.size;have f:∀(v:Value),(∀b,v.ownBlock=some b->w.heap.size<=b/\b<m2)->∀b,((ok b/\b<w.heap.size)\/(m2<=b/\b<w'.heap.size))->some b≠v.ownBlock:=fun v k b a e=>by
  have h5:=k b e.symm
  rcases a with h|h
  .have:=h.2;omega
  .omega
 have n:∀b,((ok b/\b<w.heap.size)\/(m2<=b/\b<w'.heap.size))->b<w'.heap.size:=fun b a=>by
  rcases a with h|h
  .have:=h.2;omega
  .exact h.2
 have q:=f vc (fun b a=>⟨(d.lt b a).1,lL (c1 b a) h2⟩);have y:=f vo (fun b a=>⟨(i.lt b a).1,(c4 b a).2⟩);refine⟨vc,vr,vn,vo,vt,vu,vk,vb,L,m2,he,lT h1 h2,?_,fun j hj=>(hm.done j hj (by rw[<-hm.len];exact hj)).1,a⟩
 exact {aCR:=x,aCW:=k,all:=hm.all,aDd:=fun j hj=>(hm.done j hj (by rw[<-hm.len];exact hj)).2,apart:=hm.apart,aCK:=KJ d h1 (fun b a=> .inl a) (fun b a=>a.imp .inl (fun h=>lT h1 h)) (fun b a=>⟨.inl a,n b a,q b a⟩),aCO:=p,aCS:=o,aCX:=⟨rfl,i,fun b a=> .inr (i.lt b a).1,r⟩,aCL:=(hp.inb).more (fun b a=>a.1.elim .inl (fun h=> .inr ⟨h,a.2⟩)),kept:=fun b a=>⟨n b a,q b a,f vr (fun b a=>⟨(p.lt b a).1,(c2 b a).2⟩) b a,f vn (fun b a=>⟨(o.lt b a).1,(c3 b a).2⟩) b a,fun e=>by obtain⟨u,hu,c⟩:=cM.1 e;injection hu with hu;subst hu;exact y b a c.symm⟩,aDe:=fun j hj=>⟨fun b a g=>by
  obtain⟨u,hu,c⟩:=cM.1 a;have h5:=(l j hj).1 u b hu c;have h6:=((AF d j hj).1 b a).1
  rcases g with h|h
  .have:=h.2;omega
  .omega,fun b a g=>by
  obtain⟨u,hu,c⟩:=cM.1 a;have h5:=(l j hj).2 u b hu c;have h6:=((AF d j hj).2 b a).1
  rcases g with h|h
  .have:=h.2;omega
  .omega⟩,size:=t}
end Go.Proofs.YtgoanbpcdhmfkaaGreatDoor
