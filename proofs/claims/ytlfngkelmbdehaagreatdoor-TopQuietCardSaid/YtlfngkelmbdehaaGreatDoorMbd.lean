/- Lemmas. -/
import Derived.Test.YtlfngkelmbdehaaGreatDoorMbc
namespace Go.Proofs.YtlfngkelmbdehaaGreatDoor
open Go.RowKit
set_option linter.unusedVariables false
set_option linter.unusedSimpArgs false
set_option maxHeartbeats 16000000
open _root_.Go.Proofs.Tryz
set_option maxRecDepth 20000
theorem QAI{p:Prop}(h:p:=by
 rw[UW hnw hc1 hc2 ht];simp only;rw[hset] at HN B0 HB0;clear hnw hc1 hc2 h1 h2;have d9:(eW p.aCO != 0)=true:=bne_iff_ne.2 ht;clear ht;generalize eW p.aCO=te at *;go_enter func195,ntmps195;go_wp2_with fail;refine HN.o.mono ?_;rintro e w1 ⟨rfl,hn_,k_⟩;have B1:=qS B0 k_ ⟨qo,qo⟩;have HK:=aA ((aJ HB0.o).trans k_);have HP1:=aA (HP.o.aCM (HK.o.mono fun b _ hb=>HO.o b hb));obtain⟨⟨x0,x1,x2,x3,x4,x5,x6⟩,_⟩:=bI B1.o;have hz:=aD B1.o;have HW1:=aA hn_;clear hn_ k_ HN HP B0 HB0;go_wp2_with fail;refine(HT.o _ HP1.o.2.2.1).mono ?_;rintro e w2 ⟨rfl,hb_⟩;have HW2:=aA (HW1.o.on hb_);have HK2:=aA (HK.o.trans (aJ hb_));clear hb_ HT;go_wp2;go_returns;exact⟨rfl,HW2.o,HK2.o⟩):p:=h
theorem QAA{p:Prop}(h:p:=by
 rw[Du hnw hc1 hc2 ht hl];simp only;rw[hset] at HN B0 HB0;clear hnw hc1 hc2 h1 h2 ht;have d9:(lA p.aCU != 0)=true:=bne_iff_ne.2 hl;clear hl;generalize lA p.aCU=te at *;go_enter func195,ntmps195;go_wp2_with fail;refine HN.o.mono ?_;rintro e w1 ⟨rfl,hn_,k_⟩;have B1:=qS B0 k_ ⟨qo,qo⟩;have HK:=aA ((aJ HB0.o).trans k_);have HP1:=aA (HP.o.aCM (HK.o.mono fun b _ hb=>HO.o b hb));obtain⟨⟨x0,x1,x2,x3,x4,x5,x6⟩,_⟩:=bI B1.o;have hz:=aD B1.o;have HW1:=aA hn_;clear hn_ k_ HN HP B0 HB0;go_wp2_with fail;refine(HT.o _ HP1.o.2.2.1).mono ?_;rintro e w2 ⟨rfl,hb_⟩;have HW2:=aA (HW1.o.on hb_);have HK2:=aA (HK.o.trans (aJ hb_));have HP2:=aA (HP1.o.aCM (aJ hb_));have B2:=qK B1 hb_;clear x0 x1 x2 x3 x4 x5 x6 hz hb_ HT;obtain⟨⟨x0,x1,x2,x3,x4,x5,x6⟩,_⟩:=bI B2.o;have hz:=aD B2.o;go_wp2_with fail;refine(HL.o _ HP2.o.2.2.2.2.2).mono ?_;rintro e w3 ⟨rfl,hb_⟩;have HW3:=aA (HW2.o.on hb_);have HK3:=aA (HK2.o.trans (aJ hb_));clear hb_ HL;go_wp2;go_returns;exact⟨rfl,HW3.o,HK3.o⟩):p:=h
theorem ZX{p:Prop}(h:p:=by
 go_enter func195,ntmps195;go_wp2_with fail;refine HN.o.mono ?_;rintro e w1 ⟨rfl,hn_,k_⟩;have B1:=qS B0 k_ ⟨qo,qo⟩;have HK:=aA ((aJ HB0.o).trans k_);have HP1:=aA (HP.o.aCM (HK.o.mono fun b _ hb=>HO.o b hb));obtain⟨⟨x0,x1,x2,x3,x4,x5,x6⟩,_⟩:=bI B1.o;have hz:=aD B1.o;have HW1:=aA hn_;clear hn_ k_ HN HP B0 HB0;go_wp2;go_returns;exact⟨rfl,HW1.o,HK.o⟩):p:=h
theorem Sk{p:Prop}(h:p:=by
 go_enter func195,ntmps195;go_wp2_with fail;refine HN.o.mono ?_;rintro e w1 ⟨rfl,hn_,k_⟩;have B1:=qS B0 k_ ⟨qo,qo⟩;have HK:=aA ((aJ HB0.o).trans k_);have HP1:=aA (HP.o.aCM (HK.o.mono fun b _ hb=>HO.o b hb));obtain⟨⟨x0,x1,x2,x3,x4,x5,x6⟩,_⟩:=bI B1.o;have hz:=aD B1.o;have HW1:=aA hn_;clear hn_ k_ HN HP B0 HB0;go_wp2_with fail;refine(HT.o _ HP1.o.2.2.1).mono ?_;rintro e w2 ⟨rfl,hb_⟩;have HW2:=aA (HW1.o.on hb_);have HK2:=aA (HK.o.trans (aJ hb_));have HP2:=aA (HP1.o.aCM (aJ hb_));have B2:=qK B1 hb_;clear x0 x1 x2 x3 x4 x5 x6 hz hb_ HT;obtain⟨⟨x0,x1,x2,x3,x4,x5,x6⟩,_⟩:=bI B2.o;have hz:=aD B2.o;go_wp2_with fail;refine(HL.o _ HP2.o.2.2.2.2.2).mono ?_;rintro e w3 ⟨rfl,hb_⟩;have HW3:=aA (HW2.o.on hb_);have HK3:=aA (HK2.o.trans (aJ hb_));have HP3:=aA (HP2.o.aCM (aJ hb_));have B3:=qK B2 hb_;clear x0 x1 x2 x3 x4 x5 x6 hz hb_ HL;obtain⟨⟨x0,x1,x2,x3,x4,x5,x6⟩,_⟩:=bI B3.o;have hz:=aD B3.o;go_wp2;go_returns;exact⟨rfl,HW3.o,HK3.o⟩):p:=h
theorem DM{p:Po}{s s1:WS}{a:Bool}(h:gM p.id s=(a,s1))(h1:a=false\/p.alg<1\/6<p.alg):fG p s=(1,s1):=by
 unfold fG;rw[h];exact iP h1
theorem AK{p:Po}{s s1:WS}{a:Bool}(h:gM p.id s=(a,s1))(h1:¬(a=false\/p.alg<1\/6<p.alg))(h2:(p.set=true/\p.aCH≠[])\/(p.set=false/\(0<p.aCS.length\/p.alg=4))):fG p s=(1,s1):=by
 unfold fG;rw[h];simp only[iN h1,iP h2]
theorem UW{p:Po}{s s1:WS}{a:Bool}(h:gM p.id s=(a,s1))(h1:¬(a=false\/p.alg<1\/6<p.alg))(h2:¬((p.set=true/\p.aCH≠[])\/(p.set=false/\(0<p.aCS.length\/p.alg=4))))(h3:eW p.aCO≠0):fG p s=(eW p.aCO,s1):=by
 unfold fG;rw[h];simp only[iN h1,iN h2,iP h3]
theorem Du{p:Po}{s s1:WS}{a:Bool}(h:gM p.id s=(a,s1))(h1:¬(a=false\/p.alg<1\/6<p.alg))(h2:¬((p.set=true/\p.aCH≠[])\/(p.set=false/\(0<p.aCS.length\/p.alg=4))))(h3:eW p.aCO=0)(h4:lA p.aCU≠0):fG p s=(lA p.aCU,s1):=by
 unfold fG;rw[h];simp only[iN h1,iN h2,h3,ne_eq,not_true_eq_false,if_false,iP h4]
theorem OW{p:Po}{s s1:WS}{a:Bool}(h:gM p.id s=(a,s1))(h1:¬(a=false\/p.alg<1\/6<p.alg))(h2:¬((p.set=true/\p.aCH≠[])\/(p.set=false/\(0<p.aCS.length\/p.alg=4))))(h3:eW p.aCO=0)(h4:lA p.aCU=0):fG p s=(if 16<p.aCH.length\/16<p.aCS.length then 6 else 0,s1):=by
 unfold fG;rw[h];simp only[iN h1,iN h2,h3,h4,ne_eq,not_true_eq_false,if_false];by_cases h5:16<p.aCH.length\/16<p.aCS.length
 .rw[iP h5,iP h5]
 .rw[iN h5,iN h5]
theorem Ox{n:Nat}{ok:nP}(p:Po)(vt vr vk vo:Value)(mb g:Nat)(s:WS)(hm:s.met.length<=1000000)(w:World)(h:NW w mb g s)(hp:fK n w ok p vt vr vk vo)(q:∀b,ok b->b≠g/\b≠mb):Calls prog 195 #[.pointer (some ⟨g,0,none⟩),.agg #[.string p.id,.bool p.set,.int .i64 p.alg,vt,vr,vk,vo]] w (oH w mb g (fG p s).2 (.int .i64 (fG p s).1)):=by
 have x:=h.lt;have y:=h.ltm;obtain⟨i,j,rfl,_⟩:=hp.2.2.1.slice;obtain⟨ra,rc,rfl,v⟩:=hp.2.2.2.1.slice;obtain⟨l,m,rfl,t⟩:=hp.2.2.2.2.1.slice;obtain⟨d,f,rfl,_⟩:=hp.2.2.2.2.2.slice;obtain⟨HN,B0,HB0,HP,HO⟩:=gB (zU p.id hp.1 mb g s hm _ (h.on (aB w (.cells #[.string p.id,.bool p.set,.int .i64 p.alg,.slice i p.aCO.length j,.slice ra p.aCH.length rc,.slice l p.aCS.length m,.slice d p.aCU.length f] 38)))) (aK w (.cells #[.string p.id,.bool p.set,.int .i64 p.alg,.slice i p.aCO.length j,.slice ra p.aCH.length rc,.slice l p.aCS.length m,.slice d p.aCU.length f] 38) _ rfl) (aB w (.cells #[.string p.id,.bool p.set,.int .i64 p.alg,.slice i p.aCO.length j,.slice ra p.aCH.length rc,.slice l p.aCS.length m,.slice d p.aCU.length f] 38)) hp q;unfold oH;unfold oH at HN;obtain⟨r,s1,hnw⟩:∃a b,gM p.id s=(a,b):=⟨_,_,rfl⟩;rw[hnw] at HN;simp only at HN;clear h hp q
 cases r
 .rw[DM hnw (.inl rfl)];simp only;clear hnw;exact ZX
 by_cases h1:p.alg<1
 .rw[DM hnw (.inr (.inl h1))];simp only;have d1:decide (p.alg<1)=true:=dX h1;clear hnw h1;exact ZX
 have d1:decide (p.alg<1)=false:=dF h1;by_cases h2:6<p.alg
 .rw[DM hnw (.inr (.inr h2))];simp only;have d2:decide (p.alg > 6)=true:=dX h2;clear hnw h1 h2;exact ZX
 have d2:decide (p.alg > 6)=false:=dF h2;have hc1:¬(true=false\/p.alg<1\/6<p.alg):=by rintro (h|h|h);cases h;exact h1 h;exact h2 h
 have HT:=aA (fun w h=>KO (ok:=ok) (.slice i p.aCO.length j) p.aCO w h);unfold aP at HT;have HL:=aA (fun w h=>UR (ok:=ok) (.slice d p.aCU.length f) p.aCU w h);unfold aP at HL
 cases hset:p.set
 .by_cases o:0<p.aCS.length
  .rw[AK hnw hc1 (.inr ⟨hset,.inl o⟩)];simp only;rw[hset] at HN B0 HB0;have d3:decide ((p.aCS.length:Int) > 0)=true:=dX qo;clear hnw h1 h2 hc1 HT HL;exact ZX
  have d3:decide ((p.aCS.length:Int) > 0)=false:=dF qo;by_cases h4:p.alg=4
  .rw[AK hnw hc1 (.inr ⟨hset,.inr h4⟩)];simp only;rw[hset] at HN B0 HB0;have d4:(p.alg==4)=true:=bQ.2 h4;clear hnw h1 h2 hc1 HT HL h4;exact ZX
  have d4:(p.alg==4)=false:=bN.2 h4;have hc2:¬((p.set=true/\p.aCH≠[])\/(p.set=false/\(0<p.aCS.length\/p.alg=4))):=by rintro (h|h);rw[hset] at h;cases h.1;exact h.2.elim o h4
  by_cases ht:eW p.aCO=0
  case neg=>
   exact QAI
  rw[ht] at HT;by_cases hl:lA p.aCU=0
  case neg=>
   exact QAA
  rw[hl] at HL;rw[OW hnw hc1 hc2 ht hl];simp only;rw[hset] at HN B0 HB0;clear hnw hc1 hc2 h1 h2 ht hl;by_cases h16:16<p.aCH.length
  .rw[iP (.inl h16)];have d9:decide ((p.aCH.length:Int) > 16)=true:=dX qo;exact Sk
  have d9:decide ((p.aCH.length:Int) > 16)=false:=dF qo;by_cases c:16<p.aCS.length
  .exact absurd c qo
  have d10:decide ((p.aCS.length:Int) > 16)=false:=dF qo;rw[iN (fun h=>h.elim h16 c)];exact Sk
 .by_cases k:0<p.aCH.length
  .rw[AK hnw hc1 (.inl ⟨hset,fun e=>by rw[e] at k;exact absurd k qe⟩)];simp only;rw[hset] at HN B0 HB0;have d3:decide ((p.aCH.length:Int) > 0)=true:=dX qo;clear hnw h1 h2 hc1 HT HL;exact ZX
  have d3:decide ((p.aCH.length:Int) > 0)=false:=dF qo;have hc2:¬((p.set=true/\p.aCH≠[])\/(p.set=false/\(0<p.aCS.length\/p.alg=4))):=by rintro (h|h);exact k (List.length_pos_iff.2 h.2);rw[hset] at h;cases h.1
  by_cases ht:eW p.aCO=0
  case neg=>
   exact QAI
  rw[ht] at HT;by_cases hl:lA p.aCU=0
  case neg=>
   exact QAA
  rw[hl] at HL;rw[OW hnw hc1 hc2 ht hl];simp only;rw[hset] at HN B0 HB0;clear hnw hc1 hc2 h1 h2 ht hl;by_cases h16:16<p.aCH.length
  .exact absurd h16 qo
  have d9:decide ((p.aCH.length:Int) > 16)=false:=dF qo;by_cases c:16<p.aCS.length
  .rw[iP (.inr c)];have d10:decide ((p.aCS.length:Int) > 16)=true:=dX qo;exact Sk
  have d10:decide ((p.aCS.length:Int) > 16)=false:=dF qo;rw[iN (fun h=>h.elim h16 c)];exact Sk
def pA(b:Nat)(s t:WS):Prop:=t.met.length<=s.met.length+b/\t.aCH<=s.aCH+b
theorem pA.trans{a b:Nat}{s t u:WS}(h:pA a s t)(k:pA b t u):pA (a+b) s u:=⟨qD h.1 k.1,qD h.2 k.2⟩
theorem pA.more{a b:Nat}{s t:WS}(h:pA a s t)(k:a<=b):pA b s t:=⟨qA h.1,qA h.2⟩
theorem pA.refl(b:Nat)(s:WS):pA b s s:=⟨qo,qo⟩
theorem Je(n:bY)(s:WS):pA 1 s (gM n s).2:=⟨OU n s,by rw[xS];omega⟩
theorem OX(r:Ru)(s:WS):pA 1 s (fQ r s).2:=by
 have h:=OU r.id s;have h2:=xS r.id s;unfold fQ;generalize gM r.id s=q at *;obtain⟨a,s1⟩:=q;simp only at h h2 ⊢;unfold pA;split
 .exact⟨h,by simp only;omega⟩
 split
 .exact⟨h,by simp only;omega⟩
 split
 .exact⟨h,by simp only;omega⟩
 split
 .exact⟨h,by simp only;omega⟩
 .exact⟨h,by simp only;omega⟩
theorem OY(p:Po)(s:WS):pA 1 s (fG p s).2:=by
 have h:=Je p.id s;unfold fG;generalize gM p.id s=q at *;obtain⟨a,s1⟩:=q;simp only at h ⊢
 repeat' split
 all_goals exact h
theorem uY{p:Po}{s:WS}(h:(fG p s).1=0):p.aCH.length<=16/\p.aCS.length<=16:=by
 unfold fG at h;generalize gM p.id s=q at *;obtain⟨b,s1⟩:=q;simp only at h;by_cases h1:b=false\/p.alg<1\/6<p.alg
 .rw[iP h1] at h;simp at h
 rw[iN h1] at h;by_cases h2:(p.set=true/\p.aCH≠[])\/(p.set=false/\(0<p.aCS.length\/p.alg=4))
 .rw[iP h2] at h;simp at h
 rw[iN h2] at h;by_cases h3:eW p.aCO=0
 case neg=>rw[iP h3] at h;exact absurd h h3
 rw[iN (fun a=>a h3)] at h;by_cases h4:lA p.aCU=0
 case neg=>rw[iP h4] at h;exact absurd h h4
 rw[iN (fun a=>a h4)] at h;by_cases h5:16<p.aCH.length\/16<p.aCS.length
 .rw[iP h5] at h;simp at h
 .omega
theorem IW{α:Type}{f:α->WS->Int×WS}{b:Nat}(c:∀x s,pA b s (f x s).2):∀(l:List α) (s:WS),pA (l.length * b) s (jB f l s).2
 | [],s=>pA.refl _ s
 |x::l,s=>by
  have h1:=c x s;have h2:=IW c l (f x s).2;unfold jB;generalize f x s=q at *;obtain⟨e,s1⟩:=q;simp only at h1 h2 ⊢;have a:(x::l).length * b=b+l.length * b:=by rw[List.length_cons,Nat.add_mul];omega
  by_cases he:e≠0
  .rw[iP he];exact h1.more (by rw[a];omega)
  .rw[iN he,a];exact h1.trans h2
def kW:Nat->Nat
 |0=>0
 |n+1=>17+16 * kW n
theorem DN{n:Nat}{p:Po}{s:WS}(h:(fG p s).1≠0):eK (n+1) p s=fG p s:=by
 unfold eK;generalize fG p s=q at *;obtain⟨e,s1⟩:=q;exact iP h
theorem BI{n:Nat}{p:Po}{s s1:WS}(h:fG p s=(0,s1))(h1:(jB fQ p.aCH s1).1≠0):eK (n+1) p s=jB fQ p.aCH s1:=by
 unfold eK;rw[h];simp only[ne_eq,not_true_eq_false,if_false];generalize jB fQ p.aCH s1=q at *;obtain⟨e,s2⟩:=q;exact iP h1
theorem DO{n:Nat}{p:Po}{s s1 s2:WS}(h:fG p s=(0,s1))(h1:jB fQ p.aCH s1=(0,s2)):eK (n+1) p s=jB (eK n) p.aCS s2:=by
 unfold eK;rw[h];simp only[ne_eq,not_true_eq_false,if_false];rw[h1];simp only[not_true_eq_false,if_false]
theorem GH:∀(n:Nat) (p:Po) (s:WS),pA (kW n) s (eK n p s).2
 |0,p,s=>pA.refl _ s
 |n+1,p,s=>by
  have h1:=OY p s;have e:=uY (p:=p) (s:=s);by_cases a:(fG p s).1=0
  case neg=>rw[DN a];exact h1.more (by unfold kW;omega)
  obtain⟨g,f⟩:=e a;obtain⟨s1,b⟩:∃s1,fG p s=(0,s1):=⟨_,Prod.ext a rfl⟩;rw[b] at h1;have h2:=IW OX p.aCH s1;by_cases c:(jB fQ p.aCH s1).1=0
  case neg=>rw[BI b c];exact(h1.trans h2).more (by unfold kW;omega)
  obtain⟨s2,d⟩:∃s2,jB fQ p.aCH s1=(0,s2):=⟨_,Prod.ext c rfl⟩;rw[d] at h2;rw[DO b d];refine((h1.trans h2).trans (IW (GH n) p.aCS s2)).more ?_;have:=Nat.mul_le_mul_right (kW n) f;show 1+p.aCH.length * 1+p.aCS.length * kW n<=17+16 * kW n;omega
section
variable {α:Type} {f:α->WS->Int×WS} {l:List α} {k:Nat} {s:WS} {res:Int×WS}
theorem OZ(a:k<l.length)(h:jB f (l.drop k) s=res)(h1:(f l[k] s).1≠0):res=f l[k] s:=by
 rw[<-h,List.drop_eq_getElem_cons a];unfold jB;generalize f l[k] s=q at *;obtain⟨e,s1⟩:=q;exact iP h1
theorem ZY{s1:WS}(a:k<l.length)(h:jB f (l.drop k) s=res)(h1:f l[k] s=(0,s1)):jB f (l.drop (k+1)) s1=res:=by
 rw[<-h,List.drop_eq_getElem_cons a]
 conv=>rhs;unfold jB
 rw[h1];simp only[ne_eq,not_true_eq_false,if_false]
theorem UX(h:jB f (l.drop l.length) s=res):res=(0,s):=by
 rw[<-h,List.drop_length];rfl
end
def Dv(n:Nat):Prop:=∀(d:Int),d=5 - (n:Int)->∀(m:Nat) (ok:nP) (p:Po) (vt vr vk vo:Value) (mb g:Nat) (s:WS) (w:World),s.met.length+kW n<=1000000->s.aCH+kW n<=1000000->NW w mb g s->fK m w ok p vt vr vk vo->(∀b,ok b->b≠g/\b≠mb)->
 Calls prog 153 #[.pointer (some ⟨g,0,none⟩),.agg #[.string p.id,.bool p.set,.int .i64 p.alg,vt,vr,vk,vo],.int .i64 d] w (oH w mb g (eK n p s).2 (.int .i64 (eK n p s).1))
theorem Jf:Dv 0:=fun d l m ok p vt vr vk vo mb g s w hm o h hp n=>by
 obtain⟨f,i,rfl,_⟩:=hp.2.2.1.slice;obtain⟨ra,rc,rfl,r⟩:=hp.2.2.2.1.slice;obtain⟨a,b,rfl,q⟩:=hp.2.2.2.2.1.slice;obtain⟨c,e,rfl,_⟩:=hp.2.2.2.2.2.slice;have k:=aA (h.on (aB w (.cells #[.string p.id,.bool p.set,.int .i64 p.alg,.slice f p.aCO.length i,.slice ra p.aCH.length rc,.slice a p.aCS.length b,.slice c p.aCU.length e] 38)));have j:=aA (aB w (.cells #[.string p.id,.bool p.set,.int .i64 p.alg,.slice f p.aCO.length i,.slice ra p.aCH.length rc,.slice a p.aCS.length b,.slice c p.aCU.length e] 38));obtain rfl:d=5:=qo;unfold oH eK;clear h hp n hm o l;go_enter func153,ntmps153;go_wp2;go_returns;exact⟨rfl,k.o,aJ j.o⟩
theorem Jg(n:Nat)(hn:n<=3)(HI:Dv n):Dv (n+1):=fun d hd m ok p vt vr vk vo mb g s w hm hr h hp ho=>by
 have bu:=h.lt;have bw:=h.ltm;obtain⟨ta,tc,rfl,_⟩:=hp.2.2.1.slice;obtain⟨ra,rc,rfl,bt⟩:=hp.2.2.2.1.slice;obtain⟨ka,kc,rfl,bs⟩:=hp.2.2.2.2.1.slice;obtain⟨oa,oc,rfl,_⟩:=hp.2.2.2.2.2.slice;have bg:s.met.length+(17+16 * kW n)<=1000000:=hm;have bh:s.aCH+(17+16 * kW n)<=1000000:=hr;obtain⟨bd,be,B0,ae,HP,HO,H⟩:=hD7 bg bh (aK w (.cells #[.string p.id,.bool p.set,.int .i64 p.alg,.slice ta p.aCO.length tc,.slice ra p.aCH.length rc,.slice ka p.aCS.length kc,.slice oa p.aCU.length oc] 38) _ rfl) (aB w (.cells #[.string p.id,.bool p.set,.int .i64 p.alg,.slice ta p.aCO.length tc,.slice ra p.aCH.length rc,.slice ka p.aCS.length kc,.slice oa p.aCU.length oc] 38)) hp ho (Ox p _ _ _ _ mb g s qo _ (h.on (aB w (.cells #[.string p.id,.bool p.set,.int .i64 p.alg,.slice ta p.aCO.length tc,.slice ra p.aCH.length rc,.slice ka p.aCS.length kc,.slice oa p.aCU.length oc] 38))) (hp.aCM (aJ (aB w (.cells #[.string p.id,.bool p.set,.int .i64 p.alg,.slice ta p.aCO.length tc,.slice ra p.aCH.length rc,.slice ka p.aCS.length kc,.slice oa p.aCU.length oc] 38)))) ho);have W:=OY p s;have d4:decide (d > 4)=false:=dF qo;have bm:=aA HI;have HD:=aA hd;obtain⟨d2,aq⟩:=xE (d+1);have e1:IntKind.i64.wrap (d+1)=d2:=by rw[IntWalk.i64_in _ qo];exact aq.symm
 have bj:=aA aq;unfold oH at H ⊢;clear h hp ho hm hr bg bh hd aq HI;by_cases O:(fG p s).1=0
 case neg=>
  rw[DN O];have dh:((fG p s).1 != 0)=true:=bne_iff_ne.2 O;clear O W;generalize fG p s=q at *;obtain⟨e,s1⟩:=q;simp only at H dh ⊢;go_enter func153,ntmps153;go_wp2_with fail;refine H.o.mono ?_;rintro e w1 ⟨rfl,f,a⟩;have aa:=aA f;have Z:=aA ((aJ ae.o).trans a);clear f a H;go_wp2;go_returns;exact⟨rfl,aa.o,Z.o⟩
 have hlen:=uY O;obtain⟨s1,ad⟩:∃s1,fG p s=(0,s1):=⟨_,Prod.ext O rfl⟩;rw[ad] at H W;simp only at H W;have af:=aA W;obtain⟨br,ab⟩:=xE (eK (n+1) p s);rw[<-ab];have ai:=aA (fun h1=>ab.trans (BI (n:=n) ad h1));have ag:=aA (fun s2 h1=>ab.trans (DO (n:=n) (s2:=s2) ad h1));obtain⟨bz,bx⟩:=hlen;clear ab ad O W;obtain⟨R1,an⟩:=xE (jB fQ p.aCH s1);rw[<-an] at ai ag;have U:Hid (jB fQ (p.aCH.drop 0) s1=R1):=aA (by rw[List.drop_zero];exact an.symm);clear an;go_enter func153,ntmps153;go_wp2_with fail;refine H.o.mono ?_;rintro e w1 ⟨rfl,f,a⟩;obtain⟨aa,Z,B1⟩:=aY f ((aJ ae.o).trans a) (aF B0.o a ⟨qo,qo⟩);obtain⟨⟨x,D,E,F,G,Q,R⟩,_⟩:=bI B1.o;have hz:=aD B1.o;clear f a H B0 ae;go_wp2;clear x D E F G Q R hz;go_loopw [25] (fun i wr=>∃(k:Nat) (j:WS),k<=p.aCH.length/\i=.int .i64 k/\Hid (jB fQ (p.aCH.drop k) j=R1)/\Hid (pA k s1 j)/\Hid (NW wr mb g j)/\Hid (aN (fun b=>b≠g/\b≠mb) w wr)/\Hid (aN (fun b=>b≠g/\b≠mb) w1 wr)) (fun i _=>p.aCH.length - (intOf i).toNat)
 case atStart=>exact⟨0,s1,Nat.zero_le _,rfl,U,aA (pA.refl _ _),aa,Z,aA (aN.refl _ _)⟩
 case round=>
  clear U aa Z;obtain⟨k,j,hk,rfl,v,l,A,o,T⟩:=hrel;by_cases M:k<p.aCH.length
  .have bp:(k:Int)<(p.aCH.length:Int):=qo;obtain⟨b,off,rr,rfl,_,bo,⟨b5,b0,b2,rfl,X⟩,V⟩:=aH.at bM (HP.o.aCM (o.o.mono fun b _ hb=>HO.o b hb)).2.2.2.1 M qe;have K:=aA (fun h1=>OZ M v.o h1);have I:=aA (fun s1 h1=>ZY (s1:=s1) M v.o h1);have t:=aA (OX p.aCH[k] j);obtain⟨a7,ba,rfl,_⟩:=X.2.1.slice;obtain⟨ak,al,rfl,_⟩:=X.2.2.1.slice;obtain⟨aw,ay,rfl,_⟩:=X.2.2.2.slice;obtain⟨x,D,E,F,G⟩:=JM V;rw[Nat.add_zero] at x;clear V v;generalize p.aCH[k]=r at *;have c:=aA (Jd r _ _ _ mb g j (qF l.o.1 af.o.1 bd.o) (qF l.o.2 af.o.2 be.o) _ (A.o.on (aB wr (.cells #[.string r.id,.bool r.aDf,.slice a7 r.aCO.length ba,.slice ak r.cond.length al,.slice aw r.aCU.length ay] 277))) (X.aCM (aJ (aB wr (.cells #[.string r.id,.bool r.aDf,.slice a7 r.aCO.length ba,.slice ak r.cond.length al,.slice aw r.aCU.length ay] 277)))) HO.o);have z:=aA (aB wr (.cells #[.string r.id,.bool r.aDf,.slice a7 r.aCO.length ba,.slice ak r.cond.length al,.slice aw r.aCU.length ay] 277));unfold oH at c;clear X;by_cases he:(fQ r j).1=0
   .obtain⟨B,N⟩:∃B,fQ r j=(0,B):=⟨_,Prod.ext he rfl⟩;have ah:=aA (I.o _ N);rw[N] at c t;simp only at c t;have Y:=aA (l.o.trans t.o);clear K I t he N l A;go_wp2_with fail;refine c.o.mono ?_;rintro e w2 ⟨rfl,f,a⟩;obtain⟨L,J,bn⟩:=aY f ((o.o.trans (aJ z.o)).trans a) ((T.o.trans (aJ z.o)).trans a);clear f a c z o T x D E F G;go_wp2;go_roundw
    case rel=>exact⟨k+1,B,qo,by go_num,ah,Y,L,J,bn⟩
    case measure=>simp[intOf];omega
   .have ar:=K.o he;have S:=aA (ai.o (by rw[ar];exact he));have aj:=aA ar;have de:((fQ r j).1 != 0)=true:=bne_iff_ne.2 he;clear K I t he ar l A;generalize fQ r j=q at *;obtain⟨e0,B⟩:=q;simp only at c de;go_wp2_with fail;refine c.o.mono ?_;rintro e w2 ⟨rfl,f,a⟩;have L:=aA f;have J:=aA ((o.o.trans (aJ z.o)).trans a);clear f a c z o T x D E F G;go_wp2;go_returns;rw[S.o,aj.o];exact⟨rfl,L.o,J.o⟩
  .have bp:¬(k:Int)<(p.aCH.length:Int):=qo;obtain rfl:k=p.aCH.length:=qo;have S:=aA (ag.o j (UX v.o));obtain⟨R2,ao⟩:=xE (jB (eK n) p.aCS j);rw[<-ao] at S;have U:Hid (jB (eK n) (p.aCS.drop 0) j=R2):=aA (by rw[List.drop_zero];exact ao.symm);have Y:=aA (af.o.trans l.o);clear ao ai ag v l;have B2:=qS B1 T.o ⟨qo,qo⟩;obtain⟨⟨x,D,E,F,G,Q,R⟩,_⟩:=bI B2.o;have hz:=aD B2.o;clear T
   rename World=>wx
   go_wp2;clear x D E F G Q R hz;go_loopw [39] (fun i wr=>∃(k:Nat) (C:WS),k<=p.aCS.length/\i=.int .i64 k/\Hid (jB (eK n) (p.aCS.drop k) C=R2)/\Hid (pA (k * kW n) j C)/\Hid (NW wr mb g C)/\Hid (aN (fun b=>b≠g/\b≠mb) w wr)) (fun i _=>p.aCS.length - (intOf i).toNat)
   case atStart=>exact⟨0,j,Nat.zero_le _,rfl,U,aA (pA.refl _ _),A,o⟩
   case round=>
    clear U A o;obtain⟨k,C,hk,rfl,v,l,A,o⟩:=hrel;by_cases M:k<p.aCS.length
    .have bq:(k:Int)<(p.aCS.length:Int):=qo;have hbound:(k+1) * kW n<=16 * kW n:=Nat.mul_le_mul_right _ qo;have bc:=aA hbound;clear hbound;obtain⟨b,off,rr,rfl,_,bo,bf,V⟩:=aH.at (bB m) (HP.o.aCM (o.o.mono fun b _ hb=>HO.o b hb)).2.2.2.2.1 M qe
     rcases m with _|m
     .exact bf.elim
     obtain⟨b6,b4,b1,b3,rfl,P⟩:=bf;have K:=aA (fun h1=>OZ M v.o h1);have I:=aA (fun s1 h1=>ZY (s1:=s1) M v.o h1);have t:=aA (GH n p.aCS[k] C);obtain⟨a8,bb,rfl,_⟩:=P.2.2.1.slice;obtain⟨a1,a6,rfl,_⟩:=P.2.2.2.1.slice;obtain⟨au,av,rfl,_⟩:=P.2.2.2.2.1.slice;obtain⟨ax,az,rfl,_⟩:=P.2.2.2.2.2.slice;obtain⟨x,D,E,F,G,Q,R⟩:=CA V;rw[Nat.add_zero] at x;clear V v;generalize p.aCS[k]=y at *;have c:=aA (bm.o d2 (qD HD.o bj.o) m ok y _ _ _ _ mb g C _ (by have:=l.o.1;have:=Y.o.1;have:=bd.o;have:=bc.o;rw[Nat.add_mul] at this;omega) (by have:=l.o.2;have:=Y.o.2;have:=be.o;have:=bc.o;rw[Nat.add_mul] at this;omega) (A.o.on (aB wr (.cells #[.string y.id,.bool y.set,.int .i64 y.alg,.slice a8 y.aCO.length bb,.slice a1 y.aCH.length a6,.slice au y.aCS.length av,.slice ax y.aCU.length az] 38))) ((show fK m _ ok y _ _ _ _ from P).aCM (aJ (aB wr (.cells #[.string y.id,.bool y.set,.int .i64 y.alg,.slice a8 y.aCO.length bb,.slice a1 y.aCH.length a6,.slice au y.aCS.length av,.slice ax y.aCU.length az] 38)))) HO.o);have z:=aA (aB wr (.cells #[.string y.id,.bool y.set,.int .i64 y.alg,.slice a8 y.aCO.length bb,.slice a1 y.aCH.length a6,.slice au y.aCS.length av,.slice ax y.aCU.length az] 38));unfold oH at c;clear P;by_cases he:(eK n y C).1=0
     .obtain⟨B,N⟩:∃B,eK n y C=(0,B):=⟨_,Prod.ext he rfl⟩;have ah:=aA (I.o _ N);rw[N] at c t;simp only at c t;have bl:Hid (pA ((k+1) * kW n) j B):=aA (by rw[Nat.add_mul,Nat.one_mul];exact l.o.trans t.o);clear K I t he N l A;go_wp2_with fail;refine c.o.mono ?_;rintro e w2 ⟨rfl,f,a⟩;have L:=aA f;have J:=aA ((o.o.trans (aJ z.o)).trans a);clear f a c z o x D E F G Q R;go_wp2;go_roundw
      case rel=>exact⟨k+1,B,qo,by go_num,ah,bl,L,J⟩
      case measure=>simp[intOf];omega
     .have aj:=aA (K.o he);have de:((eK n y C).1 != 0)=true:=bne_iff_ne.2 he;clear K I t he l A;generalize eK n y C=q at *;obtain⟨e0,B⟩:=q;simp only at c de;go_wp2_with fail;refine c.o.mono ?_;rintro e w2 ⟨rfl,f,a⟩;have L:=aA f;have J:=aA ((o.o.trans (aJ z.o)).trans a);clear f a c z o x D E F G Q R;go_wp2;go_returns;rw[S.o,aj.o];exact⟨rfl,L.o,J.o⟩
    .have bq:¬(k:Int)<(p.aCS.length:Int):=qo;obtain rfl:k=p.aCS.length:=qo;have bk:=aA (UX v.o);clear v l;go_wp2;go_returns;rw[S.o,bk.o];exact⟨rfl,A.o,o.o⟩
theorem UY:∀n,n<=4->Dv n
 |0,_=>Jf
 |n+1,h=>Jg n qo (UY n qo)
section
open Go.Maps
theorem rW{ok:nP}{m:Nat}(p:Po)(vt vr vk vo:Value)(w:World)(hp:fK m w ok p vt vr vk vo):Calls prog 93 #[.agg #[.string p.id,.bool p.set,.int .i64 p.alg,vt,vr,vk,vo]] w (aP (.int .i64 (fJ p)) w):=by
 obtain⟨A,B,rfl,_⟩:=hp.2.2.1.slice;obtain⟨ra,rc,rfl,D⟩:=hp.2.2.2.1.slice;obtain⟨v,x,rfl,C⟩:=hp.2.2.2.2.1.slice;obtain⟨y,z,rfl,_⟩:=hp.2.2.2.2.2.slice;have E:= @run_makeMap prog;obtain⟨w1,f⟩:=xE (w.alloc (.cells (kF p A B ra rc v x y z) 38));have l:Below w.heap.size w w1:=by rw[f];exact aB _ _
 have d:w1.heap.size=w.heap.size+1:=by rw[f];simp
 have n:=World.ownsMap_made (H:=Unit) w1 prog 9 unitElem;have g:Hid (NW ((w1.alloc (.map #[] 0)).alloc (.cells #[.map (some (w.heap.size+1)),.int .i64 0] 239)) (w.heap.size+1) (w.heap.size+2) ⟨[],0⟩):=aA (by
  refine⟨aK _ _ _ (by simp[d]),qo,.map [],?_,fun t=>by simp[Maps.has]⟩;rw[<-d];exact n.alloc _)
 have a:Hid (Below w.heap.size w ((w1.alloc (.map #[] 0)).alloc (.cells #[.map (some (w.heap.size+1)),.int .i64 0] 239))):=aA ((l.alloc qo _).alloc (by simp[d];omega) _);have i:=aA (hp.inb.aCM (aJ a.o));have c:=aA (UY 4 (lR _) 1 qo m _ p _ _ _ _ (w.heap.size+1) (w.heap.size+2) ⟨[],0⟩ _ qe qe g.o i.o (fun b j=>⟨qA j.2,qA j.2⟩));rw[f] at c a;unfold oH at c;unfold aP fJ;generalize eK 4 p ⟨[],0⟩=q at *;clear hp g i n l d f;go_enter func93,ntmps93;go_wp2_with fail;refine c.o.mono ?_;rintro e w2 ⟨rfl,_,o⟩;have r:=aA (a.o.trans (o.below (fun k s=>⟨lL s a.o.size,qo,qo⟩)));clear o c a;go_wp2;go_returns;exact⟨rfl,r.o⟩
end
theorem KP(s:bY)(w:World)(a:gU w):Calls prog 35 #[.string s] w (yG s.data.toList w):=by
 by_cases c:s.size<=4096
 .exact ZO s c w a
 have b:jL s.data.toList=([],6,4096):=by
  unfold jL;rw[iP (by rw[Array.length_toList];show 4096<s.size;omega)]
 unfold yG;rw[b];have d:decide ((s.size:Int) > 4096)=true:=dX qo;have d2:4096<s.size:=qo;clear b c a;go_enter func35,ntmps35;go_wp2;refine uJ 0 (fun _ _=>False) (fun _ _=>0) rfl (fun _ _ h=>h.elim) ?_;intro _;go_wp2;simp only[Exit.jump];go_ret3
 exact⟨_,rfl,aH.nil,Below.refl _ _⟩
theorem QAF{p:Prop}(h:p:=by
 clear hb_ HRI c0 c1 c2 c3 c4 y0 y1 y2 y3 y4 y5 y6;obtain⟨A2_,c2_,c0,c1,c2,c3,c4,_⟩:=HP7.o.cells;rw[HBD.o] at c3;obtain⟨⟨y0,y1,y2,y3,y4,y5,y6⟩,_⟩:=bI BO7.o;obtain⟨⟨x0,x1,x2,x3,x4,x5,x6⟩,f0,f1,f2,f3,f4,f5,f6⟩:=bI B7.o;have hyl:=aD BO7.o;have HOX:=aA (HO7.o.more (ok':=fun b=>w.heap.size<b) (fun b hb=>hb.1));go_wp2;refine bR (.tuple #[.agg #[.string out.id,.bool out.set,.int .i64 out.alg,.slice ta out.aCO.length tc,.slice ra out.aCH.length rc,.slice ka out.aCS.length kc,.slice oa out.aCU.length oc],.int .i64 0,.int .i64 0]) ?_;rw[HV.o];refine⟨_,rfl,⟨_,_,_,_,rfl,(HOX.o.set.set.set.set.set.set.set).more (fun b hb=>Nat.le_of_lt hb)⟩,?_⟩;exact(((((((HB7.o.setCell (lR _) _).setCell (lR _) _).setCell (lR _) _).setCell (lR _) _).setCell (lR _) _).setCell (lR _) _).setCell (lR _) _)):p:=h
theorem QAy{p:Prop}(h:p:=by
 clear hb_ HRI c0 c1 c2 c3 c4 y0 y1 y2 y3 y4 y5 y6;go_wp2_with fail;refine(HWA.o _ _ HP7.o).mono ?_;rintro e w8 ⟨rfl,h_,k_⟩;have HB8:=aA (HB7.o.trans (k_.below (fun k hk=>⟨lL hk HB7.o.size,qo⟩)));have B8:=qS B7 k_ qo;have HP8:=aA h_;clear h_ k_ HWA HP7 B7 HB7;obtain⟨A2_,c2_,c0,c1,c2,c3,c4,_⟩:=HP8.o.cells;rw[HWR.o.1] at c3;rw[HWR.o.2] at c4;have hgl8:=HP8.o.lt;obtain⟨⟨x0,x1,x2,x3,x4,x5,x6⟩,f0,f1,f2,f3,f4,f5,f6⟩:=bI B8.o;go_wp2;go_region
 all_goals
  go_wp2;refine bR (.tuple #[.agg #[.string ⟨#[]⟩,.bool false,.int .i64 0,.slice none 0 0,.slice none 0 0,.slice none 0 0,.slice none 0 0],.int .i64 (5),.int .i64 ((S.size:Int))]) ?_;rw[HV.o];refine⟨_,rfl,⟨_,_,_,_,rfl,EV _ _⟩,?_⟩
  first
   |exact(((((((HB8.o.setCell (lR _) _).setCell (lR _) _).setCell (lR _) _).setCell (lR _) _).setCell (lR _) _).setCell (lR _) _).setCell (lR _) _).drew
   |exact(((((((HB8.o.drew.setCell (lR _) _).setCell (lR _) _).setCell (lR _) _).setCell (lR _) _).setCell (lR _) _).setCell (lR _) _).setCell (lR _) _)):p:=h
def ZZ(l:List Tok)(p:PS):PS:=if (aU l p).aCF≠7 then dK l p else p
def wH(S:bY)(out:Po)(a:PS):PS:=if a.bad=0/\fJ out≠0 then eM 5 S.size a else a
def uL(out:Po)(a:PS):Po×Int×Int:=if a.bad≠0 then (lX,a.bad,a.place) else (out,0,0)
theorem UZ{S:bY}{l:List Tok}{e place:Int}(h:jL S.data.toList=(l,e,place))(h1:e≠0):fD S=(lX,e,place):=by
 unfold fD;rw[h];exact iP h1
theorem PA{S:bY}{l:List Tok}{place:Int}(h:jL S.data.toList=(l,0,place)):fD S=uL (cO l 3 ⟨0,0,0,0⟩).1 (wH S (cO l 3 ⟨0,0,0,0⟩).1 (ZZ l (cO l 3 ⟨0,0,0,0⟩).2)):=by
 unfold fD;rw[h];rfl
theorem EV(w:World)(ok:nP):fK 3 w ok lX (.slice none 0 0) (.slice none 0 0) (.slice none 0 0) (.slice none 0 0):=⟨qe,by unfold bK;decide,aH.nil,aH.nil,aH.nil,aH.nil⟩
theorem Oy(a b c:Int)(s:bY)(w:World):(Instr.field 98 (.agg #[.int .i64 a,.int .i64 b,.int .i64 c,.string s]) 0).run prog w=.ok (.int .i64 a) w:=by kernel_rfl
theorem fK.set{n g i:Nat}{w:World}{x:Value}{p:Po}{vt vr vk vo:Value}(h:fK n w (fun b=>g<b) p vt vr vk vo):fK n (w.setCell ⟨g,i,none⟩ x) (fun b=>g<b) p vt vr vk vo:=h.aCM ((aI x).mono fun k _ a=>by have:g<k:=a;show k≠g;omega)
def uZ(S:bY)(w:World)(e:Ending)(w':World):Prop:=
 ∃v,e=.returned (.tuple #[v,.int .i64 (fD S).2.1,.int .i64 (fD S).2.2])/\PoV 3 w' (fun b=>w.heap.size<=b) v (fD S).1/\Below w.heap.size w w'
theorem rX(S:bY)(w:World)(hg:gU w):Calls prog 58 #[.string S] w (uZ S w):=by
 have n:=aA (fun w h=>KP S w h);have T:=aA hg;unfold yG at n;unfold uZ;obtain⟨L,W,ah,o⟩:∃L e pl,jL S.data.toList=(L,e,pl):=⟨_,_,_,rfl⟩;rw[o] at n;simp only at n;clear hg;by_cases he:W=0
 case neg=>
  rw[UZ o he];have d:(W != 0)=true:=bne_iff_ne.2 he;clear o he;go_enter func58,ntmps58;go_wp2_with fail;refine(n.o _ (T.o.on (aB _ _))).mono ?_;rintro e w1 ⟨v,rfl,i,hb_⟩;obtain⟨m,y,E⟩:=aY (aE (aK w (.cells vV 38) _ rfl) hb_) (aC (aB w (.cells vV 38)) hb_) i;obtain⟨la,lc,rfl,ab⟩:=i.slice;clear i hb_ n;obtain⟨⟨x0,x1,x2,x3,x4,x5,x6⟩,f0,f1,f2,f3,f4,f5,f6⟩:=bI m.o;go_wp2;refine bR (.tuple #[.agg #[.string ⟨#[]⟩,.bool false,.int .i64 0,.slice none 0 0,.slice none 0 0,.slice none 0 0,.slice none 0 0],.int .i64 W,.int .i64 ah]) ?_;refine⟨_,rfl,⟨_,_,_,_,rfl,EV _ _⟩,?_⟩;exact((((((y.o.setCell (lR _) _).setCell (lR _) _).setCell (lR _) _).setCell (lR _) _).setCell (lR _) _).setCell (lR _) _).setCell (lR _) _
 subst he;rw[PA o];obtain⟨P,X⟩:Toks L/\0<L.length:=by have h:=SE (l:=S.data.toList) (by rw[o]);rw[o] at h;exact h
 have hM:AI L:=by have h:=Is (l:=S.data.toList) (by rw[o]);rw[o] at h;exact h
 have U:=aA (rN P 3 (p:=⟨0,0,0,0⟩) X);have Z:=aA P.len;have D:=aA (fun g w h=>KM P hM 3 (lR _) 1 qe ⟨0,0,0,0⟩ g w X (Nat.zero_le _) h);unfold wF at D;generalize cO L 3 ⟨0,0,0,0⟩=q at *;obtain⟨out,p⟩:=q;simp only at D U ⊢;have G:=aA (fun g w h=>gG U.o.lt Z.o g w h);have V:=aA (fun g w h=>lN U.o.lt Z.o g w h);unfold aP gY at G;unfold eP at V;clear o P hM X;have ai:=Oy (aU L p).aCF (aU L p).at_ (aU L p).num (aU L p).str;by_cases hk:(aU L p).aCF=7
 .have K:ZZ L p=p:=iN (fun h=>h hk);have dk:((aU L p).aCF != 7)=false:=by rw[hk];rfl
  rw[K];clear K hk;go_enter func58,ntmps58;go_wp2_with fail;refine(n.o _ (T.o.on (aB _ _))).mono ?_;rintro e w1 ⟨v,rfl,i,hb_⟩;obtain⟨m,y,E⟩:=aY (aE (aK w (.cells vV 38) _ rfl) hb_) (aC (aB w (.cells vV 38)) hb_) i;obtain⟨la,lc,rfl,ab⟩:=i.slice;clear i hb_ n;have af:=aD m.o;have J:Hid (PW L (w1.alloc (.cells #[.slice la L.length lc,.int .i64 0,.int .i64 0,.int .i64 0,.int .i64 0] 168)) w1.heap.size ⟨0,0,0,0⟩):=aA ⟨la,lc,aK _ _ _ rfl,((E.o.inb gX).on gX (aB _ _)).more gX (fun b hb=>hb.2)⟩;have z:=qB y (aB w1 (.cells #[.slice la L.length lc,.int .i64 0,.int .i64 0,.int .i64 0,.int .i64 0] 168));go_wp2_with fail;refine(D.o _ _ J.o).mono ?_;rintro e j ⟨vt,vr,vk,vo,rfl,c,M,k_⟩;obtain⟨ta,tc,rfl,_⟩:=c.2.2.1.slice;obtain⟨ra,rc,rfl,_⟩:=c.2.2.2.1.slice;obtain⟨ka,kc,rfl,_⟩:=c.2.2.2.2.1.slice;obtain⟨oa,oc,rfl,_⟩:=c.2.2.2.2.2.slice;have s:=aA (aF (aE m.o (aB w1 (.cells #[.slice la L.length lc,.int .i64 0,.int .i64 0,.int .i64 0,.int .i64 0] 168))) k_ qo);have F:=aA (z.o.trans (k_.below (fun k hk=>⟨lL hk z.o.size,qo⟩)));have A:=aA M;have H:=aA (c.more (ok':=fun b=>w.heap.size<b/\b≠w1.heap.size) (fun b hb=>by have h9:(w1.alloc _).heap.size<=b:=hb;rw[World.size_alloc] at h9;exact⟨by show w.heap.size<b;omega,by show b≠w1.heap.size;omega⟩));have ag:=aD s.o;have ad:=A.o.lt;clear c M k_ D J z m y E;have B:=aA (A.o.on (aB j (.cells (kF out ta tc ra rc ka kc oa oc) 38)));go_wp2_with fail;refine(G.o _ _ B.o).mono ?_;rintro e w5 ⟨rfl,hb_⟩;obtain⟨C,I,t,x,r⟩:=gB (B.o.on hb_) ((H.o.aCM (aJ (aB j (.cells (kF out ta tc ra rc ka kc oa oc) 38)))).aCM (aJ hb_)) (aE (aE s.o (aB j (.cells (kF out ta tc ra rc ka kc oa oc) 38))) hb_) (aE (aK j (.cells (kF out ta tc ra rc ka kc oa oc) 38) _ rfl) hb_) (aC (aC F.o (aB j (.cells (kF out ta tc ra rc ka kc oa oc) 38))) hb_)
  clear hb_ G B A H s F;obtain⟨A_,c_,c0,c1,c2,c3,c4,_⟩:=C.o.cells;obtain⟨⟨y0,y1,y2,y3,y4,y5,y6⟩,_⟩:=bI x.o;have ae:=C.o.lt;have hyl:=aD x.o;by_cases hb:p.bad=0
  case neg=>
   have HV:Hid (uL out (wH S out p)=(lX,p.bad,p.place)):=aA (by unfold wH;rw[iN (fun h=>hb h.1)];exact iP hb);have d1:(p.bad==0)=false:=bN.2 hb;have d2:(p.bad != 0)=true:=bne_iff_ne.2 hb;clear hb;obtain⟨⟨x0,x1,x2,x3,x4,x5,x6⟩,f0,f1,f2,f3,f4,f5,f6⟩:=bI t.o;go_wp2;go_region
   all_goals
    go_wp2;refine bR (.tuple #[.agg #[.string ⟨#[]⟩,.bool false,.int .i64 0,.slice none 0 0,.slice none 0 0,.slice none 0 0,.slice none 0 0],.int .i64 (p.bad),.int .i64 (p.place)]) ?_;rw[HV.o];refine⟨_,rfl,⟨_,_,_,_,rfl,EV _ _⟩,?_⟩
    first
     |exact(((((((r.o.setCell (lR _) _).setCell (lR _) _).setCell (lR _) _).setCell (lR _) _).setCell (lR _) _).setCell (lR _) _).setCell (lR _) _).drew
     |exact(((((((r.o.drew.setCell (lR _) _).setCell (lR _) _).setCell (lR _) _).setCell (lR _) _).setCell (lR _) _).setCell (lR _) _).setCell (lR _) _)
  have d1:(p.bad==0)=true:=bQ.2 hb;have HRI:=aA (rW out _ _ _ _ _ I.o);unfold aP at HRI;by_cases f:fJ out=0
  case pos=>
   have HV:Hid (uL out (wH S out p)=(out,0,0)):=aA (by unfold wH;rw[iN (fun h=>h.2 f)];exact iN (fun h=>h hb));rw[f] at HRI;rw[hb] at c3;have HBD:=aA hb;clear hb f d1;go_wp2_with fail;refine HRI.o.mono ?_;rintro e Y ⟨rfl,hb_⟩;obtain⟨HP7,HO7,B7,BO7,HB7⟩:=gB (C.o.on hb_) (I.o.aCM (aJ hb_)) (aE t.o hb_) (aE x.o hb_) (aC r.o hb_);exact QAF
  have HV:Hid (uL out (wH S out p)=(lX,5,(S.size:Int))):=aA (by unfold wH;rw[iP ⟨hb,f⟩];unfold eM;rw[iP hb];rfl);have HWR:Hid ((eM 5 S.size p).bad=5/\(eM 5 S.size p).place=(S.size:Int)):=aA (by unfold eM;rw[iP hb];exact⟨rfl,rfl⟩);have HWA:=aA (fun g w h=>tQ (L:=L) (p:=p) 5 S.size g w h);unfold eP at HWA;have d5:(fJ out != 0)=true:=bne_iff_ne.2 f;rw[hb] at c3;clear hb f d1;generalize fJ out=ro at *;generalize eM 5 S.size p=pw at *;go_wp2_with fail;refine HRI.o.mono ?_;rintro e Y ⟨rfl,hb_⟩;obtain⟨HP7,B7,HB7⟩:=aY (C.o.on hb_) (aE t.o hb_) (aC r.o hb_);exact QAy
 .have K:ZZ L p=dK L p:=iP hk;have dk:((aU L p).aCF != 7)=true:=bne_iff_ne.2 hk;rw[K];clear K hk;generalize dK L p=a at *;go_enter func58,ntmps58;go_wp2_with fail;refine(n.o _ (T.o.on (aB _ _))).mono ?_;rintro e w1 ⟨v,rfl,i,hb_⟩;obtain⟨m,y,E⟩:=aY (aE (aK w (.cells vV 38) _ rfl) hb_) (aC (aB w (.cells vV 38)) hb_) i;obtain⟨la,lc,rfl,ab⟩:=i.slice;clear i hb_ n;have af:=aD m.o;have J:Hid (PW L (w1.alloc (.cells #[.slice la L.length lc,.int .i64 0,.int .i64 0,.int .i64 0,.int .i64 0] 168)) w1.heap.size ⟨0,0,0,0⟩):=aA ⟨la,lc,aK _ _ _ rfl,((E.o.inb gX).on gX (aB _ _)).more gX (fun b hb=>hb.2)⟩;have z:=qB y (aB w1 (.cells #[.slice la L.length lc,.int .i64 0,.int .i64 0,.int .i64 0,.int .i64 0] 168));go_wp2_with fail;refine(D.o _ _ J.o).mono ?_;rintro e j ⟨vt,vr,vk,vo,rfl,c,M,k_⟩;obtain⟨ta,tc,rfl,_⟩:=c.2.2.1.slice;obtain⟨ra,rc,rfl,_⟩:=c.2.2.2.1.slice;obtain⟨ka,kc,rfl,_⟩:=c.2.2.2.2.1.slice;obtain⟨oa,oc,rfl,_⟩:=c.2.2.2.2.2.slice;have s:=aA (aF (aE m.o (aB w1 (.cells #[.slice la L.length lc,.int .i64 0,.int .i64 0,.int .i64 0,.int .i64 0] 168))) k_ qo);have F:=aA (z.o.trans (k_.below (fun k hk=>⟨lL hk z.o.size,qo⟩)));have A:=aA M;have H:=aA (c.more (ok':=fun b=>w.heap.size<b/\b≠w1.heap.size) (fun b hb=>by have h9:(w1.alloc _).heap.size<=b:=hb;rw[World.size_alloc] at h9;exact⟨by show w.heap.size<b;omega,by show b≠w1.heap.size;omega⟩));have ag:=aD s.o;have ad:=A.o.lt;clear c M k_ D J z m y E;have B:=aA (A.o.on (aB j (.cells (kF out ta tc ra rc ka kc oa oc) 38)));go_wp2_with fail
  refine(G.o _ _ B.o).mono ?_;rintro e w5 ⟨rfl,hb_⟩;obtain⟨C,I,t,x,r⟩:=gB (B.o.on hb_) ((H.o.aCM (aJ (aB j (.cells (kF out ta tc ra rc ka kc oa oc) 38)))).aCM (aJ hb_)) (aE (aE s.o (aB j (.cells (kF out ta tc ra rc ka kc oa oc) 38))) hb_) (aE (aK j (.cells (kF out ta tc ra rc ka kc oa oc) 38) _ rfl) hb_) (aC (aC F.o (aB j (.cells (kF out ta tc ra rc ka kc oa oc) 38))) hb_);clear hb_ G B A H s F;go_wp2_with fail;refine(V.o _ _ C.o).mono ?_;rintro e w6 ⟨rfl,h_,k_⟩;have ak:=aD t.o;have aj:=aD x.o;have N:=aA (r.o.trans (k_.below (fun k hk=>⟨lL hk r.o.size,qo⟩)));have Q:=qS t k_ qo;have R:=qS x k_ qo;have aa:=aA (I.o.aCM (k_.mono fun b _ hb=>hb.2));have O:=aA h_;clear h_ k_ V C I t x r;obtain⟨A_,c_,c0,c1,c2,c3,c4,_⟩:=O.o.cells;obtain⟨⟨y0,y1,y2,y3,y4,y5,y6⟩,_⟩:=bI R.o;have ae:=O.o.lt;have hyl:=aD R.o;by_cases hb:a.bad=0
  case neg=>
   have HV:Hid (uL out (wH S out a)=(lX,a.bad,a.place)):=aA (by unfold wH;rw[iN (fun h=>hb h.1)];exact iP hb);have d1:(a.bad==0)=false:=bN.2 hb;have d2:(a.bad != 0)=true:=bne_iff_ne.2 hb;clear hb;obtain⟨⟨x0,x1,x2,x3,x4,x5,x6⟩,f0,f1,f2,f3,f4,f5,f6⟩:=bI Q.o;go_wp2;go_region
   all_goals
    go_wp2;refine bR (.tuple #[.agg #[.string ⟨#[]⟩,.bool false,.int .i64 0,.slice none 0 0,.slice none 0 0,.slice none 0 0,.slice none 0 0],.int .i64 (a.bad),.int .i64 (a.place)]) ?_;rw[HV.o];refine⟨_,rfl,⟨_,_,_,_,rfl,EV _ _⟩,?_⟩
    first
     |exact(((((((N.o.setCell (lR _) _).setCell (lR _) _).setCell (lR _) _).setCell (lR _) _).setCell (lR _) _).setCell (lR _) _).setCell (lR _) _).drew
     |exact(((((((N.o.drew.setCell (lR _) _).setCell (lR _) _).setCell (lR _) _).setCell (lR _) _).setCell (lR _) _).setCell (lR _) _).setCell (lR _) _)
  have d1:(a.bad==0)=true:=bQ.2 hb;have HRI:=aA (rW out _ _ _ _ _ aa.o);unfold aP at HRI;by_cases f:fJ out=0
  case pos=>
   have HV:Hid (uL out (wH S out a)=(out,0,0)):=aA (by unfold wH;rw[iN (fun h=>h.2 f)];exact iN (fun h=>h hb));rw[f] at HRI;rw[hb] at c3;have HBD:=aA hb;clear hb f d1;go_wp2_with fail;refine HRI.o.mono ?_;rintro e Y ⟨rfl,hb_⟩;obtain⟨HP7,HO7,B7,BO7,HB7⟩:=gB (O.o.on hb_) (aa.o.aCM (aJ hb_)) (aE Q.o hb_) (aE R.o hb_) (aC N.o hb_);exact QAF
  have HV:Hid (uL out (wH S out a)=(lX,5,(S.size:Int))):=aA (by unfold wH;rw[iP ⟨hb,f⟩];unfold eM;rw[iP hb];rfl);have HWR:Hid ((eM 5 S.size a).bad=5/\(eM 5 S.size a).place=(S.size:Int)):=aA (by unfold eM;rw[iP hb];exact⟨rfl,rfl⟩);have HWA:=aA (fun g w h=>tQ (L:=L) (p:=a) 5 S.size g w h);unfold eP at HWA;have d5:(fJ out != 0)=true:=bne_iff_ne.2 f;rw[hb] at c3;clear hb f d1;generalize fJ out=ro at *;generalize eM 5 S.size a=pw at *;go_wp2_with fail;refine HRI.o.mono ?_;rintro e Y ⟨rfl,hb_⟩;obtain⟨HP7,B7,HB7⟩:=aY (O.o.on hb_) (aE Q.o hb_) (aC N.o hb_);exact QAy
end Go.Proofs.YtlfngkelmbdehaaGreatDoor
