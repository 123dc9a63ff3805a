/- Lemmas. -/
import Derived.Test.YtgoanbpcdhmfkaaGreatDoorMat
namespace Go.Proofs.YtgoanbpcdhmfkaaGreatDoor
open Go.RowKit
set_option linter.unusedVariables false
set_option linter.unusedSimpArgs false
set_option maxHeartbeats 16000000
open _root_.Go.Proofs.Tryz
set_option maxRecDepth 20000
theorem QCD{p:Prop}(h:p:=by
 go_wp2;go_meet;exact⟨A',l'.length,c2,rfl,aA (by rw[HE9.o]),aA (by have h:=HG9.o;have e:=HE9.o;subst e;exact h),HB9⟩):p:=h
theorem QCA{p:Prop}(h:p:=by
 exact HG10.o.sl (qA HL4.o) _ (fun b hb _=>lT HB0.o.size hb) (fun b hb _=>lT HB0.o.size hb) cA):p:=h
theorem QBO{p:Prop}(h:p:=by
 clear HST hin hrs;go_wp2;go_roundw
 case rel=>exact⟨k2+1,n2,a',c',qo,by go_num,rfl,hn16,aA (by rw[HN2.o,HE.o]),aA (by rw[HE.o];exact HG3.o),HB3⟩
 case measure=>simp[intOf];omega):p:=h
def gS(l:List wV)(su:bY):List V3:=((l.filter (fun r=>decide (r.1=su))).take 16).map (fun r=>((5,0,r.2):V3))
theorem YH{l:List wV}{su:bY}{k:Nat}(a:k<l.length):gS (l.take (k+1)) su=if l[k].1=su/\(gS (l.take k) su).length<16 then gS (l.take k) su++[(5,0,l[k].2)] else gS (l.take k) su:=by
 unfold gS;rw[List.take_succ_eq_append_getElem a,List.filter_append,List.length_map,List.length_take];by_cases h:l[k].1=su
 .rw[List.filter_cons_of_pos (by simpa using h),List.filter_nil,List.take_append];by_cases h2:((l.take k).filter (fun r=>decide (r.1=su))).length<16
  .rw[iP ⟨h,qo⟩,List.map_append,List.take_of_length_le (l:=[l[k]]) (by simp;omega)];rfl
  .rw[iN (fun h3=>qA h3.2),show 16 - ((l.take k).filter (fun r=>decide (r.1=su))).length=0 by omega];simp
 .rw[List.filter_cons_of_neg (by simpa using h),List.filter_nil,List.append_nil,iN (fun h3=>h h3.1)]
theorem Eh(l:List wV)(su:bY):(gS l su).length<=16:=by
 unfold gS;rw[List.length_map,List.length_take];omega
def iT(su:bY)(a:List V3)(act:bY):List Gv:=[(1,⟨#[105,100]⟩,[(5,0,su)]),(1,⟨#[114,111,108,101]⟩,a),(2,⟨#[110,97,109,101]⟩,[(5,0,act)])]
def fT(a:bY):List Gv:=if a.size≠0 then [(2,⟨#[102,105,101,108,100]⟩,[(5,0,a)])] else []
def oK(a:bY):List Gv:=if a.size≠0 then [(2,⟨#[116,111]⟩,[(5,0,a)])] else []
def IY(s:Sto)(o:Op):List Gv:=match eT s o.aCQ with |some c=>if o.aCJ≠6 then nL c o.aCZ else []|none=>[]
def LC(c:Option cF)(k:Int)(su:bY):List Gv:=match c with |some c=>if k≠6 then nL c su else []|none=>[]
theorem Ym(s:Sto)(o:Op):pV s o=iT o.aCZ (gS s.aCX o.aCZ) (cJ o.aCJ)++fT o.aC4++oK o.to_++[(4,⟨#[110,111,119]⟩,[(4,s.aCR,⟨#[]⟩)])]++IY s o:=by
 unfold pV iT fT oK IY rT CF gS;rw[Xc,Xa,Xf,Tu,aCb,Zm];rfl
theorem LD(x:bY):(!x.toList.isEmpty)=decide (x.size≠0):=by
 by_cases h:x.size=0
 .rw[(fN x [] (mT h)).2,dF (fun k=>k h)];rfl
 .rw[dX h,Bool.not_eq_true',List.isEmpty_eq_false_iff];exact(fG x [] (kV h)).2
theorem VK{x:bY}(h:false=decide (x.size≠0)):x.size=0:=Decidable.not_not.1 (of_decide_eq_false h.symm)
theorem PI{x:bY}(h:true=decide (x.size≠0)):x.size≠0:=of_decide_eq_true h.symm
theorem VL(x:bY):(fT x).length<=1:=by unfold fT;split<;>simp
theorem Kc(x:bY):(oK x).length<=1:=by unfold oK;split<;>simp
theorem YI(c:cF)(su:bY):(nL c su).length<=c.aCP.length+6:=by
 rw[LB,aL,aL];have h1:(cU c.aCP).length<=c.aCP.length:=by have:=wO c.aCP c.aCP.length;rwa [List.take_of_length_le (lR _)] at this
 have h2:(qH c).length<=1:=by unfold qH;split<;>simp
 have h3:(uE c (cH (c.log.any (fun h=>decide (h.aDj=su))))).length=5:=rfl;omega
theorem Pt{s:Sto}{N:bY}{c:cF}(b:∀c∈s.aCK,c.aCP.length<=999000)(a:eT s N=some c):c.aCP.length<=999000:=by
 rcases ER s N with ⟨e,_⟩|⟨k,d,_,e⟩
 .rw[e] at a;cases a
 .rw[e] at a;injection a with a;subst a;exact b _ (List.getElem_mem d)
theorem VM(k:Int):(cJ k).size<=cQ:=by
 by_cases h:k<1\/7<k
 .rw[ZP k h];decide
 .exact QCv
theorem Kd{t:Int}(h:bK t):cS (4,t,⟨#[]⟩):=⟨iW (x:=4) qo,h,show (⟨#[]⟩:bY).size<=cQ by decide⟩
theorem Pu{ok:nP}(s:Sto)(vc vr vn vo vt vu vk vb:Value)(o:Op)(ho:kG o)(b3:∀c∈s.aCK,c.aCP.length<=999000)(w:World)(h:eZ w ok s vc vr vn vo vt vu vk vb):Calls prog 53 #[.agg (aV s vc vr vn vo vt vu vk vb),fA o] w (VJ (pV s o) w):=by
 obtain⟨ca,cc,ra,rc,na,nc,oa,oc,ta,tc,ua,uc,ka,kc,ba,bc,rfl,_,rfl,_,rfl,_,rfl,_,rfl,_,rfl,_,rfl,_,rfl,_⟩:=h.sl;have hs:eZ w ok s (.slice ca s.aCK.length cc) (.slice ra s.aCO.length rc) (.slice na s.aCS.length nc) (.slice oa s.aCX.length oc) (.slice ta s.aCL.aCU.length tc) (.slice ua s.aCL.aCM.length uc) (.slice ka s.aCL.aCY.length kc) (.slice ba s.aCL.aC0.length bc):=h;have aj:=aA (Ym s o);obtain⟨g1,g2,g3,g4,g5,g6,g7,g8,g9⟩:=ho;obtain⟨k,su,cd,f,m,⟨v1,v2,v3⟩,rv,tx,rs,gl⟩:=o;dsimp only at g1 g2 g3 g4 g5 aj;have c7:s.aCX.length<=1000000:=by obtain⟨_,_,_,h4⟩:=h.aCX.slice;exact h4
 unfold fA bZ;dsimp only;obtain⟨W0,aq⟩:=xE ((w.alloc (.cells (fS s ca cc ra rc na nc oa oc ta tc ua uc ka kc ba bc) 40)).alloc (.cells #[.int .i64 k,.string su,.string cd,.string f,.string m,.int .i64 v1,.int .i64 v2,.string v3,.int .i64 rv,.string tx,.string rs,.bool gl] 46));have HB0:Hid (Below w.heap.size w W0):=aA (by rw[aq];exact aC (aB _ _) (aB _ _));have A:Hid (W0.heap[w.heap.size]? =some (.cells (fS s ca cc ra rc na nc oa oc ta tc ua uc ka kc ba bc) 40 (0,0))):=aA (by rw[aq];exact aE (aK _ _ _ rfl) (aB _ _));have B:Hid (W0.heap[w.heap.size+1]? =some (.cells #[.int .i64 k,.string su,.string cd,.string f,.string m,.int .i64 v1,.int .i64 v2,.string v3,.int .i64 rv,.string tx,.string rs,.bool gl] 46 (0,0))):=aA (by rw[aq];exact aK _ _ _ qs);obtain⟨cn,HS,cb⟩:=aY aq hs b3;have b8:=aA (fun w2 (hb:Below w.heap.size w w2)=>CZ s _ _ _ _ _ _ _ _ cd w2 (hs.on hb));have bd:Hid (∀w',Below W0.heap.size W0 w'->w'.cell? ⟨w.heap.size,0,none⟩=some (.int .i64 s.aCR)/\w'.cell? ⟨w.heap.size,1,none⟩=some (.slice ca s.aCK.length cc)/\w'.cell? ⟨w.heap.size,2,none⟩=some (.slice ra s.aCO.length rc)/\w'.cell? ⟨w.heap.size,3,none⟩=some (.slice na s.aCS.length nc)/\w'.cell? ⟨w.heap.size,4,none⟩=some (.slice oa s.aCX.length oc)/\w'.cell? ⟨w.heap.size,5,none⟩=some (.string s.aCL.id)/\w'.cell? ⟨w.heap.size,6,none⟩=some (.bool s.aCL.set)/\w'.cell? ⟨w.heap.size,7,none⟩=some (.int .i64 s.aCL.alg)/\w'.cell? ⟨w.heap.size,8,none⟩=some (.slice ta s.aCL.aCU.length tc)/\w'.cell? ⟨w.heap.size,9,none⟩=some (.slice ua s.aCL.aCM.length uc)/\w'.cell? ⟨w.heap.size,10,none⟩=some (.slice ka s.aCL.aCY.length kc)/\w'.cell? ⟨w.heap.size,11,none⟩=some (.slice ba s.aCL.aC0.length bc)/\w'.cell? ⟨w.heap.size,12,none⟩=some (.int .i64 s.aCW)):=aA (fun w' hb=>(bS (aE A.o hb)).1)
 have an:Hid (∀w',Below W0.heap.size W0 w'->w'.cell? ⟨w.heap.size+1,0,none⟩=some (.int .i64 k)/\w'.cell? ⟨w.heap.size+1,1,none⟩=some (.string su)/\w'.cell? ⟨w.heap.size+1,2,none⟩=some (.string cd)/\w'.cell? ⟨w.heap.size+1,3,none⟩=some (.string f)/\w'.cell? ⟨w.heap.size+1,4,none⟩=some (.string m)/\w'.cell? ⟨w.heap.size+1,5,none⟩=some (.int .i64 v1)/\w'.cell? ⟨w.heap.size+1,6,none⟩=some (.int .i64 v2)/\w'.cell? ⟨w.heap.size+1,7,none⟩=some (.string v3)/\w'.cell? ⟨w.heap.size+1,8,none⟩=some (.int .i64 rv)/\w'.cell? ⟨w.heap.size+1,9,none⟩=some (.string tx)/\w'.cell? ⟨w.heap.size+1,10,none⟩=some (.string rs)/\w'.cell? ⟨w.heap.size+1,11,none⟩=some (.bool gl)):=aA (fun w' hb=>(bL (aE B.o hb)).1);have ah:Hid (∀w',Below W0.heap.size W0 w'->w'.cell? ⟨w.heap.size+1,0,none⟩=some (.int .i64 k)/\w'.cell? ⟨w.heap.size+1,1,none⟩=some (.string su)):=aA (fun w' hb=>by obtain⟨h0,h1,_⟩:=(bL (aE B.o hb)).1;exact⟨h0,h1⟩);have az:=aA (fun w=>AD k w);have bq:=aA (VM k);obtain⟨act,b2⟩:∃act,cJ k=act:=⟨_,rfl⟩;rw[b2] at az bq aj;obtain⟨G2,G3,G4,G5,GT⟩:=gC g2 g3 g4 g5 h.aCR;unfold aP at az;unfold aV;have bu:=aA (Below.refl W0.heap.size W0);obtain⟨m0,m1,m2,m3,m4,m5,m6,m7,m8,m9,m10,m11,m12⟩:=bd.o _ bu.o;have zm:=aD A.o;clear h hs aq b2 g1 g2 g3 g4 g5 g6 g7 g8 g9 b3;go_enter func53,ntmps53;go_upto_region 1 with (fail)
 rw[<-cn.o];go_wp2;clear m0 m1 m2 m3 m4 m5 m6 m7 m8 m9 m10 m11 m12 zm;go_loopw [5,7,14] (fun v _ i wr=>∃(k2 n2:Nat) (a':oD) (c':Nat),k2<=s.aCX.length/\i=.int .i64 k2/\v=.slice a' n2 c'/\n2<=16/\Hid (n2=(gS (s.aCX.take k2) su).length)/\Hid (aM VR 3 44 wr W0.heap.size (fun b=>W0.heap.size<=b) (.slice a' n2 c') (gS (s.aCX.take k2) su))/\Hid (Below W0.heap.size W0 wr)) (fun _ _ i _=>s.aCX.length - (intOf i).toNat)
 case atStart=>exact⟨0,0,none,0,Nat.zero_le _,rfl,rfl,Nat.zero_le _,aA (by simp[gS]),aA (by rw[show gS (s.aCX.take 0) su=[] by simp[gS]];exact aM.nil),bu⟩
 case round=>
  obtain⟨k2,n2,a',c',hk,rfl,rfl,hn16,HN2,d,P⟩:=hrel;obtain⟨T,U,X,Y,Z,p5,p6,p7,p8,p9,V,W⟩:=an.o _ P.o;have zp:=aD (aE B.o P.o);by_cases bo:k2<s.aCX.length
  .have cq:(k2:Int)<(s.aCX.length:Int):=qo;obtain⟨b,off,r,rfl,_,cz,⟨rfl,b4⟩,hc⟩:=aH.at dA (aH.on dA HS.o.aCX (aC HB0.o P.o)) bo qe;have x0:=hc 0 _ rfl;have x1:=hc 1 _ rfl;rw[Nat.add_zero] at x0;have HST:=aA (YH (su:=su) bo);have ck:=aA b4.2;clear hc b4;generalize s.aCX[k2]=r at *;obtain⟨r1,r2⟩:=r;dsimp only at x0 x1;have av:=aA (aB wr (.cells #[.string r1,.string r2] 170));by_cases hin:r1=su/\n2<16
   .have HE:Hid (gS (s.aCX.take (k2+1)) su=gS (s.aCX.take k2) su++[(5,0,r2)]):=aA (by have:=HST.o;rwa [iP ⟨hin.1,by rw[<-HN2.o];exact hin.2⟩] at this);have ds:(r1.toList==su.toList)=true:=by rw[jD];exact dX hin.1
    have d16:(n2:Int)<16:=qA hin.2;have c6:n2<=15:=qA hin.2;have J:=aA d.o.lt;clear HST hin;go_wp2_with fail;refine(vM _ _).mono ?_;rintro e j ⟨rfl,a⟩;obtain⟨D,F,N,z⟩:=dD (aC (aC P.o av.o) a) (d.o.on bG (aC av.o a)) (aK j (.cells #[.int .i64 5,.int .i64 0,.string r2] 44) j.heap.size qs) (aB j (.cells #[.int .i64 5,.int .i64 0,.string r2] 44));have E:=aA (F.o.on bG z.o);have l:=qB D z.o;have cj:Hid ((gS (s.aCX.take k2) su).length<=1000000):=aA (by rw[<-HN2.o];omega);clear a d F D x0 x1 T U X Y Z p5 p6 p7 p8 p9 V W zp;go_wp2_with (at_builtin;refine cB (base:=W0.heap.size) Xk bG rfl (.tmp 28) (.tmp 32) rfl _ (gS (s.aCX.take k2) su) rfl E.o j.heap.size 1 _ _ _ (5,0,r2) rfl N.o ⟨rfl,pN ck.o⟩ cj.o qo l.o.size ?_;intro l' M A' c2 w9 G H S;have HG9:=aA G;have HB9:=aA (E.o.below l.o H (lR _) l.o.size);have Q:=aA M.o;clear G H S M)
    have HE9:Hid (l'=gS (s.aCX.take (k2+1)) su):=aA (by rw[Q.o,HE.o]);go_roundw
    case rel=>exact⟨k2+1,l'.length,A',c2,qo,by go_num,rfl,by rw[HE9.o];exact Eh _ _,aA (by rw[HE9.o]),aA (by have h:=HG9.o;have e:=HE9.o;subst e;exact h),HB9⟩
    case measure=>simp[intOf];omega
   .have HE:Hid (gS (s.aCX.take (k2+1)) su=gS (s.aCX.take k2) su):=aA (by have:=HST.o;rwa [iN (fun h=>hin ⟨h.1,by rw[HN2.o];exact h.2⟩)] at this);have HB3:=qB P av.o;have HG3:=aA (d.o.on bG av.o);by_cases hrs:r1=su
    .have ds:(r1.toList==su.toList)=true:=by rw[jD];exact dX hrs
     have d16:¬(n2:Int)<16:=by have:¬n2<16:=fun h=>hin ⟨hrs,h⟩;omega
     exact QBO
    .have ds:(r1.toList==su.toList)=false:=by rw[jD];exact dF hrs
     exact QBO
  .have cq:¬(k2:Int)<(s.aCX.length:Int):=qo;obtain rfl:k2=s.aCX.length:=qo;rw[List.take_of_length_le (lR _)] at HN2 d;obtain⟨wq,rfl⟩:∃wq:World,wq=wr:=⟨_,rfl⟩;obtain⟨n,b1⟩:∃n,gS s.aCX su=n:=⟨_,rfl⟩;rw[b1] at HN2 d aj;clear b1 bo hk T U X Y Z p5 p6 p7 p8 p9 V W zp;go_upto_region 8 with (fail)
   go_cut [8] from 35 to 48 (fun v w'=>∃(a1:oD) (n1 c1:Nat),v=.slice a1 n1 c1/\Hid (n1=3)/\Hid (aM jN 3 173 w' W0.heap.size (fun b=>W0.heap.size<=b) (.slice a1 n1 c1) (iT su n act))/\Hid (Below W0.heap.size W0 w'))
   case first=>
    have cl:Hid (aH VR wq (fun b=>W0.heap.size<=b/\b<wq.heap.size) (.slice a' n2 c') n):=aA (by
     have e:=HN2.o;subst e;exact(eI (enc:=IC) (good:=cS) (ok':=fun b=>W0.heap.size<=b/\b<wq.heap.size) d.o).sl qo _ (fun b hb _=>hb) (fun b hb hl=>⟨hb,hl⟩) bG)
    have g:=aA P.o.drew;have p:=aA (Below.refl wq.heap.size wq).drew;have c8:=ah.o _ P.o;clear d;have d:Hid (eJ W0.heap.size wq.drew []):=aA (eJ.nil P.o.size);go_region_held3 (fun w'=>w'.cell? ⟨w.heap.size+1,0,none⟩=some (.int .i64 k)/\w'.cell? ⟨w.heap.size+1,1,none⟩=some (.string su))
     (first|assumption |exact ah.o _ g.o|exact ah.o _ (aC g.o (aB _ _)))
     ((first
       |(go_at_call 96;refine(vM _ _).mono ?_;rintro e j ⟨rfl,af⟩;(first|replace d:=aA (eJ.on d.o af)|replace d:=aA (eJ.push d.o af));(first|replace p:=aA (aC p.o af)|replace p:=aA (aC (aC p.o (aB _ _)) af));(first|replace g:=aA (aC g.o af)|replace g:=aA (aC (aC g.o (aB _ _)) af));have hS:=ah.o _ g.o;clear af)
       |(go_at_call 97;refine(nE _ _ _ _ _ _).mono ?_;rintro e q ⟨rfl,ae⟩;(first|replace d:=aA (eJ.on d.o ae)|replace d:=aA (eJ.push d.o ae));(first|replace p:=aA (aC p.o ae)|replace p:=aA (aC (aC p.o (aB _ _)) ae));(first|replace g:=aA (aC g.o ae)|replace g:=aA (aC (aC g.o (aB _ _)) ae));have hS:=ah.o _ g.o;clear ae)
       |(go_at_call 34;refine(az.o _).mono ?_;rintro e wt ⟨rfl,ag⟩;(first|replace d:=aA (eJ.on d.o ag)|replace d:=aA (eJ.push d.o ag));(first|replace p:=aA (aC p.o ag)|replace p:=aA (aC (aC p.o (aB _ _)) ag));(first|replace g:=aA (aC g.o ag)|replace g:=aA (aC (aC g.o (aB _ _)) ag));have hS:=ah.o _ g.o;clear ag)))
    all_goals
     clear hS;go_wp2;go_meet;exact⟨_,3,3,rfl,aA rfl,aA (aM.many cA qe rfl qe (aK _ _ _ rfl) g.o.size (kR (mY d.o qs (iW (x:=1) qo) (show (⟨#[105,100]⟩:bY).size<=cQ by decide) (pN G2.o)) (kR ⟨_,rfl,iW (x:=1) qo,show (⟨#[114,111,108,101]⟩:bY).size<=cQ by decide,aH.more bG (aH.on bG cl.o (aC p.o (aB _ _))) (fun x t=>⟨t.1,by have h1:=(aC p.o (aB q (.cells #[] 0))).size;have h2:=p.o.size;have h3:=t.2;rw[World.size_alloc];omega,by have h2:=p.o.size;have h3:=t.2;show x≠_;omega⟩)⟩ (kR (mY d.o qs (iW (x:=2) qo) (show (⟨#[110,97,109,101]⟩:bY).size<=cQ by decide) (pN bq.o)) rfl))) qe),aA (aC g.o (aB _ _))⟩
   case rest=>
    obtain⟨a1,n1,c1,hv,b0,bg,ak⟩:=hcut;subst hv;clear HN2 d P;obtain⟨T,U,X,Y,Z,p5,p6,p7,p8,p9,V,W⟩:=an.o _ ak.o;have zp:=aD (aE B.o ak.o);go_upto_if 51 with (fail)
    go_cut [8] from 51 to 59 (fun v w'=>∃(a2:oD) (n2 c2:Nat),v=.slice a2 n2 c2/\Hid (n2=(iT su n act++fT f).length)/\Hid (aM jN 3 173 w' W0.heap.size (fun b=>W0.heap.size<=b) (.slice a2 n2 c2) (iT su n act++fT f))/\Hid (Below W0.heap.size W0 w'))
    case first=>
     have ao:=aA (LD f);generalize (!(ByteArray.toList f).isEmpty)=em at *
     cases em
     .have K:=VK ao.o;have HE:Hid (fT f=[]):=aA (by unfold fT;rw[iN (fun h=>h K)]);clear K;go_wp2;go_meet;exact⟨a1,n1,c1,rfl,aA (by rw[HE.o,List.append_nil,b0.o];rfl),aA (by rw[HE.o,List.append_nil];exact bg.o),ak⟩
     .have K:=PI ao.o;have HE:Hid (fT f=[(2,⟨#[102,105,101,108,100]⟩,[(5,0,f)])]):=aA (by unfold fT;rw[iP K]);clear K;go_wp2_with fail;refine(vM _ _).mono ?_;rintro e j ⟨rfl,a⟩;have D:=qB ak a;have F:=aA (bg.o.on cA a);clear a;obtain⟨J,O,I⟩:=aY F.o.lt D.o.size (aB j (.cells #[.int .i64 5,.int .i64 0,.string f] 44));go_wp2_with fail;refine(nE _ _ _ _ _ _).mono ?_;rintro e q ⟨rfl,a⟩;obtain⟨HB3,aa,HG3⟩:=aY (aC (aC D.o I.o) a) (eJ.push (lo:=j.heap.size) (L:=[]) (eJ.nil (lR _)) a) (F.o.on cA (aC I.o a));obtain⟨ab,N,z⟩:=aY (mY (o:= .cells #[.int .i64 2,.string (⟨#[102,105,101,108,100]⟩:bY),.slice (some ⟨j.heap.size,0,none⟩) 1 1] 173) (b:=j.heap.size) aa.o qs (iW (x:=2) qo) (show (⟨#[102,105,101,108,100]⟩:bY).size<=cQ by decide) (pN G4.o)) (aK q (.cells #[.int .i64 2,.string (⟨#[102,105,101,108,100]⟩:bY),.slice (some ⟨j.heap.size,0,none⟩) 1 1] 173) q.heap.size qs) (aB q (.cells #[.int .i64 2,.string (⟨#[102,105,101,108,100]⟩:bY),.slice (some ⟨j.heap.size,0,none⟩) 1 1] 173));have E:=aA (HG3.o.on cA z.o);have l:=qB HB3 z.o;clear a I F D HG3 HB3;go_wp2_with (at_builtin;refine cB (base:=W0.heap.size) IL cA rfl (.tmp 52) (.tmp 58) rfl _ (iT su n act) (rfl) E.o q.heap.size 1 _ _ _ (2,(⟨#[102,105,101,108,100]⟩:bY),[(5,0,f)]) rfl N.o (by have h:=ab.o;obtain⟨vb,R,h1,h2,h3⟩:=h;exact⟨vb,R,h1,h2,aH.more bG h3 fun x t=>⟨lT O.o t.1,t.2.1,fun e=>absurd (J.o x e.symm).2 (Nat.not_lt.2 t.1)⟩⟩) (show (3:Nat)<=1000000 by omega) qo l.o.size ?_;intro l' M A' c2 w9 G H S;have HG9:=aA G;have HB9:=aA (E.o.below l.o H (lR _) l.o.size);have Q:=aA M.o;clear G H S M ab N z aa O J E l)
      have HE9:Hid (l'=iT su n act++fT f):=aA (by rw[Q.o,HE.o]);exact QCD
    case rest=>
     obtain⟨a2,n2,c2,hv,HN2,bh,al⟩:=hcut;subst hv;have bx:Hid ((iT su n act++fT f).length<=4):=aA (by rw[aL];have h:=VL f;have h3:(iT su n act).length=3:=rfl;omega);clear b0 bg ak T U X Y Z p5 p6 p7 p8 p9 V W zp;obtain⟨T,U,X,Y,Z,p5,p6,p7,p8,p9,V,W⟩:=an.o _ al.o;have zp:=aD (aE B.o al.o);go_upto_if 62 with (fail)
     go_cut [8] from 62 to 70 (fun v w'=>∃(a3:oD) (n3 c3:Nat),v=.slice a3 n3 c3/\Hid (n3=(iT su n act++fT f++oK m).length)/\Hid (aM jN 3 173 w' W0.heap.size (fun b=>W0.heap.size<=b) (.slice a3 n3 c3) (iT su n act++fT f++oK m))/\Hid (Below W0.heap.size W0 w'))
     case first=>
      have ao:=aA (LD m);generalize (!(ByteArray.toList m).isEmpty)=em at *
      cases em
      .have K:=VK ao.o;have HE:Hid (oK m=[]):=aA (by unfold oK;rw[iN (fun h=>h K)]);clear K;go_wp2;go_meet;exact⟨a2,n2,c2,rfl,aA (by rw[HE.o,List.append_nil,HN2.o]),aA (by rw[HE.o,List.append_nil];exact bh.o),al⟩
      .have K:=PI ao.o;have HE:Hid (oK m=[(2,⟨#[116,111]⟩,[(5,0,m)])]):=aA (by unfold oK;rw[iP K]);clear K;go_wp2_with fail;refine(vM _ _).mono ?_;rintro e j ⟨rfl,a⟩;have D:=qB al a;have F:=aA (bh.o.on cA a);clear a;obtain⟨J,O,I⟩:=aY F.o.lt D.o.size (aB j (.cells #[.int .i64 5,.int .i64 0,.string m] 44));go_wp2_with fail;refine(nE _ _ _ _ _ _).mono ?_;rintro e q ⟨rfl,a⟩;obtain⟨HB3,aa,HG3⟩:=aY (aC (aC D.o I.o) a) (eJ.push (lo:=j.heap.size) (L:=[]) (eJ.nil (lR _)) a) (F.o.on cA (aC I.o a));obtain⟨ab,N,z⟩:=aY (mY (o:= .cells #[.int .i64 2,.string (⟨#[116,111]⟩:bY),.slice (some ⟨j.heap.size,0,none⟩) 1 1] 173) (b:=j.heap.size) aa.o qs (iW (x:=2) qo) (show (⟨#[116,111]⟩:bY).size<=cQ by decide) (pN G5.o)) (aK q (.cells #[.int .i64 2,.string (⟨#[116,111]⟩:bY),.slice (some ⟨j.heap.size,0,none⟩) 1 1] 173) q.heap.size qs) (aB q (.cells #[.int .i64 2,.string (⟨#[116,111]⟩:bY),.slice (some ⟨j.heap.size,0,none⟩) 1 1] 173));have E:=aA (HG3.o.on cA z.o);have l:=qB HB3 z.o;clear a I F D HG3 HB3;go_wp2_with (at_builtin;refine cB (base:=W0.heap.size) IL cA rfl (.tmp 63) (.tmp 69) rfl _ (iT su n act++fT f) (rfl) E.o q.heap.size 1 _ _ _ (2,(⟨#[116,111]⟩:bY),[(5,0,m)]) rfl N.o (by have h:=ab.o;obtain⟨vb,R,h1,h2,h3⟩:=h;exact⟨vb,R,h1,h2,aH.more bG h3 fun x t=>⟨lT O.o t.1,t.2.1,fun e=>absurd (J.o x e.symm).2 (Nat.not_lt.2 t.1)⟩⟩) (lT bx.o qo) qo l.o.size ?_;intro l' M A' c2 w9 G H S;have HG9:=aA G;have HB9:=aA (E.o.below l.o H (lR _) l.o.size);have Q:=aA M.o;clear G H S M ab N z aa O J E l)
       have HE9:Hid (l'=iT su n act++fT f++oK m):=aA (by rw[Q.o,HE.o]);exact QCD
     case rest=>
      obtain⟨a3,n3,c3,hv,cx,cg,a8⟩:=hcut;subst hv;have bz:Hid ((iT su n act++fT f++oK m).length<=5):=aA (by rw[aL];have h:=Kc m;have h3:=bx.o;omega);clear HN2 bh al T U X Y Z p5 p6 p7 p8 p9 V W zp;obtain⟨m0,m1,m2,m3,m4,m5,m6,m7,m8,m9,m10,m11,m12⟩:=bd.o _ a8.o;have zm:=aD (aE A.o a8.o);go_upto_region 13 with (fail)
      have D:=a8;have F:=cg;obtain⟨J,O,I⟩:=aY F.o.lt D.o.size (aB wc (.cells #[.int .i64 4,.int .i64 s.aCR,.string ⟨#[]⟩] 44));go_wp2_with fail;refine(nE _ _ _ _ _ _).mono ?_;rintro e q ⟨rfl,a⟩;obtain⟨HB3,aa,HG3⟩:=aY (aC (aC D.o I.o) a) (eJ.push (lo:=wc.heap.size) (L:=[]) (eJ.nil (lR _)) a) (F.o.on cA (aC I.o a));obtain⟨ab,N,z⟩:=aY (mY (o:= .cells #[.int .i64 4,.string (⟨#[110,111,119]⟩:bY),.slice (some ⟨wc.heap.size,0,none⟩) 1 1] 173) (b:=wc.heap.size) aa.o qs (iW (x:=4) qo) (show (⟨#[110,111,119]⟩:bY).size<=cQ by decide) (Kd GT.o)) (aK q (.cells #[.int .i64 4,.string (⟨#[110,111,119]⟩:bY),.slice (some ⟨wc.heap.size,0,none⟩) 1 1] 173) q.heap.size qs) (aB q (.cells #[.int .i64 4,.string (⟨#[110,111,119]⟩:bY),.slice (some ⟨wc.heap.size,0,none⟩) 1 1] 173));have E:=aA (HG3.o.on cA z.o);have l:=qB HB3 z.o;clear a I F D HG3 HB3;go_upto_region 14 with (at_builtin;refine cB (base:=W0.heap.size) IL cA rfl (.tmp 71) (.tmp 77) rfl _ (iT su n act++fT f++oK m) (rfl) E.o q.heap.size 1 _ _ _ (4,(⟨#[110,111,119]⟩:bY),[(4,s.aCR,⟨#[]⟩)]) rfl N.o (by have h:=ab.o;obtain⟨vb,R,h1,h2,h3⟩:=h;exact⟨vb,R,h1,h2,aH.more bG h3 fun x t=>⟨lT O.o t.1,t.2.1,fun e=>absurd (J.o x e.symm).2 (Nat.not_lt.2 t.1)⟩⟩) (lT bz.o qo) qo l.o.size ?_;intro l' M A' c2 w9 G H S;have HG9:=aA G;have HB9:=aA (E.o.below l.o H (lR _) l.o.size);have Q:=aA M.o;obtain⟨q0,q1,q2,q3,q4,q5,q6,q7,q8,q9,ct,cu,cv⟩:=bd.o _ HB9.o;obtain⟨T,U,X,Y,Z,p5,p6,p7,p8,p9,V,W⟩:=an.o _ HB9.o;have cw:=aD (aE A.o HB9.o);have zp:=aD (aE B.o HB9.o);clear G H S M ab N z aa O J E l)
      obtain⟨P4,aw⟩:=xE (iT su n act++fT f++oK m++[(4,⟨#[110,111,119]⟩,[(4,s.aCR,⟨#[]⟩)])]);have cy:=aA aw;have bj:Hid (l'=P4):=aA (by rw[Q.o,aw]);have HL4:Hid (l'.length<=6):=aA (by rw[Q.o,aL];have h3:=bz.o;simp only[List.length_singleton];omega);have ar:=aA (aj.o);rw[<-aw] at ar;have bs:=aA (fun c (h':eT s cd=some c)=>DI HS.o h');have br:=aA (fun c (h':eT s cd=some c)=>Pt cb.o h');have bb:=aA (b8.o w9 (aC HB0.o HB9.o));obtain⟨CO,bl⟩:∃CO,eT s cd=CO:=⟨_,rfl⟩;have be:Hid (IY s ⟨k,su,cd,f,m,(v1,v2,v3),rv,tx,rs,gl⟩=LC CO k su):=aA (by rw[<-bl];rfl);rw[bl] at bb bs br;unfold aV zW at bb;clear aw bl Q aj m0 m1 m2 m3 m4 m5 m6 m7 m8 m9 m10 m11 m12 zm;go_wp2_with fail;refine bb.o.mono ?_;rintro e ai cr
      rcases cr with ⟨R,rfl,a⟩|⟨c,vf,vl,R,rfl,bm,bn,a⟩
      .subst R;have ad:=aA (aC (aC HB9.o a) (aB ai (.cells #[.string ⟨#[]⟩,.string ⟨#[]⟩,.string ⟨#[]⟩,.slice none 0 0,.slice none 0 0] 52)));have HG10:=aA ((HG9.o.on cA a).on cA (aB ai (.cells #[.string ⟨#[]⟩,.string ⟨#[]⟩,.string ⟨#[]⟩,.slice none 0 0,.slice none 0 0] 52)));clear a;go_wp2;go_returns;refine⟨_,rfl,?_,aC HB0.o ad.o⟩;rw[ar.o,be.o,show LC none k su=[] from rfl,List.append_nil,<-bj.o];exact QCA
      .subst R;obtain⟨fa,fc,rfl⟩:=bm.slice;obtain⟨la,lc,rfl⟩:=bn.slice;obtain⟨W2,ay⟩:=xE (ai.alloc (.cells (oW c fa fc la lc) 52));have ax:Below ai.heap.size ai W2:=by rw[ay];exact aB _ _
       have C:Hid (W2.heap[ai.heap.size]? =some (.cells (oW c fa fc la lc) 52 (0,0))):=aA (by rw[ay];exact aK _ _ _ rfl);obtain⟨cp,ad,HG10,b9,bf⟩:=gC ay (aC (aC HB9.o a) ax) ((HG9.o.on cA a).on cA ax) ((IU ⟨bm,bn,a⟩ (bs.o c rfl)).aCT (aJ ax)) (br.o c rfl);have au:=aA (YG c _ _ su bf.o W2 b9.o);have a6:=aA (YI c su);unfold VJ at au;obtain⟨AL,bk⟩:∃AL,nL c su=AL:=⟨_,rfl⟩;rw[bk] at au a6;have b6:=aA bk;clear ay bm bn a ax bk q0 q1 q2 q3 q4 q5 q6 q7 q8 q9 ct cu cv cw T U X Y Z p5 p6 p7 p8 p9 V W zp;obtain⟨T,U,X,Y,Z,p5,p6,p7,p8,p9,V,W⟩:=an.o _ ad.o;have zp:=aD (aE B.o ad.o);obtain⟨⟨C0,C1,C2,C3,C4⟩,_⟩:=dJ C.o;have zC:=aD C.o;go_upto_region 15 with (fail)
       rw[<-cp.o];by_cases k6:k=6
       .subst k6;go_wp2;go_returns;refine⟨_,rfl,?_,aC HB0.o ad.o⟩;rw[ar.o,be.o,show LC (some c) 6 su=[] from rfl,List.append_nil,<-bj.o];exact QCA
       .have d6:(k==6)=false:=bN.2 k6;have ch:=aA k6;go_wp2_with fail;refine au.o.mono ?_;rintro e da ⟨v11,rfl,bp,a⟩;obtain⟨xa,xc,rfl,_⟩:=bp.slice;obtain⟨J,a7,bt,cm,O⟩:=gC HG10.o.lt (aC ad.o a) (HG10.o.on cA a) (aH.inb cA bp) ad.o.size;clear a bp au HG10;go_wp2_with (at_builtin;refine AR (base:=W0.heap.size) IL cA rfl (.tmp 92) (.tmp 96) rfl _ l' rfl bt.o _ AL rfl (aH.more cA cm.o (fun y hy=>⟨lT O.o hy.1,hy.2,fun e=>absurd (J.o y e.symm).2 (Nat.not_lt.2 hy.1)⟩)) (by have h1:=HL4.o;have h2:=a6.o;have h3:=bf.o;omega) qo a7.o.size ?_;intro l2 b5 A9 c9 db G H S;have cf:=aA G;have b7:=aA (bt.o.below a7.o H (lR _) a7.o.size);have bw:=aA b5.o;clear G H S b5)
        go_returns;refine⟨_,rfl,?_,aC HB0.o b7.o⟩;rw[ar.o,be.o,show LC (some c) k su=nL c su by unfold LC;dsimp only;rw[iP ch.o],b6.o,<-bj.o,<-bw.o];exact cf.o.sl (by rw[bw.o,aL];have h1:=HL4.o;have h2:=a6.o;have h3:=bf.o;omega) _ (fun b hb _=>lT HB0.o.size hb) (fun b hb _=>lT HB0.o.size hb) cA
theorem QDa{p:Prop}(h:p:=by
 exact⟨0,0,none,0,[],qo,rfl,aA rfl,OB0,aA aM.nil,HR0,HB0,aA (lR _)⟩):p:=h
theorem QCI{p:Prop}(h:p:=by
 go_wp2;refine bR (.agg #[.complex .f64 0 0,.slice none 0 0]) ?_;exact tD HJ2.o (nX HBW.o (Nat.le_succ _)) rfl rfl):p:=h
theorem QBU{p:Prop}(h:p:=by
 rw[e9] at HG9 ⊢;go_roundw
 case rel=>exact⟨k+1,A',c2,qo,by go_num,rfl,aA (by have:=HG9.o;rw[HL9.o,HTF.o] at this;exact this),HB9⟩
 case measure=>simp[intOf];omega):p:=h
theorem QAJ{p:Prop}(h:p:=by
 have HG2:=aA (HG.o.on aO (aB wr (.cells #[.complex .f64 (Cm.qb x.1.1) (Cm.qb x.1.2),.slice xa x.2.length xc] 124)));have OBQ2:=qK OBQ (aB wr (.cells #[.complex .f64 (Cm.qb x.1.1) (Cm.qb x.1.2),.slice xa x.2.length xc] 124));have HBQ2:=qB HBQ (aB wr (.cells #[.complex .f64 (Cm.qb x.1.1) (Cm.qb x.1.2),.slice xa x.2.length xc] 124));have HSZ2:Hid (W2.heap.size<=(wr.alloc (.cells #[.complex .f64 (Cm.qb x.1.1) (Cm.qb x.1.2),.slice xa x.2.length xc] 124)).heap.size):=aA (by have:=HSZ.o;rw[World.size_alloc];omega);clear heq HPS HST HG HX3;go_wp2;go_roundw
 case rel=>exact⟨k+1,n,a2,c2,st,qo,by go_num,HNS,OBQ2,HG2,HST2,HBQ2,HSZ2⟩
 case measure=>simp[intOf];omega):p:=h
theorem QAd{p:Prop}(h:p:=by
 have OBWW:=aA OBQ.o;have HGW:=aA HG.o;have HBT:=aA HBQ.o;have HSW:=aA HSZ.o;obtain⟨WW,hWW⟩:∃WW:World,WW=wr:=⟨_,rfl⟩;subst hWW;have PBWW:=qK PB HBT.o;clear HST OBQ HG HBQ HSZ PBQ;obtain⟨⟨y0,y1⟩,g0,g1⟩:=fJ OBWW.o;have zy:=aD OBWW.o;obtain⟨⟨v0,v1,v2,v3,v4,v5,v6⟩,_⟩:=bI PBWW.o;have zv:=aD PBWW.o;go_wp2;have RBWW:=qK RB HBT.o;have HDW:=aA (fun (w':World) (hb:Below WW.heap.size WW w')=>HDU.o w' okp _ (HOB.o.on aO (aC HBW.o (aC HBT.o hb))));go_region_law (first
  |(go_simp;go_at_call 236;refine(HDW.o _ (Below.refl _ _).drew).mono ?_;rintro e wd ⟨dv,rfl,hds,hbd⟩;obtain⟨da,dc,rfl,_⟩:=hds.slice;have HBD:=aA (aC (Below.refl WW.heap.size WW).drew hbd);have HDS:=aA (hds.inb aO);have OBD:=qK OBWW HBD.o;obtain⟨⟨z0,z1⟩,h0,h1⟩:=fJ OBD.o;have zz:=aD OBD.o;clear hbd hds)
  |(refine VN (base:=W2.heap.size) VH aO rfl (.tmp 76) (.tmp 80) rfl _ st rfl (HGW.o.on aO HBD.o) _ (gO p.aC0 m) rfl (aH.more aO HDS.o (fun b hb=>⟨by have h1:=hb.1;have h2:=aD OBWW.o;have h3:WW.heap.size<=b:=h1;omega,hb.2,fun e=>by have h1:WW.heap.size<=b:=hb.1;have h2:=(HGW.o.lt b e.symm).2;omega⟩)) (by have h1:=HRL.o;have h2:=HDL.o;rw[<-HRS.o] at h1;omega) qe (lT HSW.o HBD.o.size) ?_;intro l2 hl2 A2 c4 w10 hG hgr hat';have HG10:=aA hG;have HL10:=aA hl2.o;have HB10:=aA ((HGW.o.on aO HBD.o).below (aC HBT.o HBD.o) hgr (qA HZ2.o) (lT HSW.o HBD.o.size));have OB10:=aA ((hgr.block wo.heap.size zz (fun e=>by have h1:=(HGW.o.lt _ e.symm).1;have h2:=HZ2.o;omega)).trans OBD.o);obtain⟨⟨s0',s1'⟩,t0',t1'⟩:=fJ OB10.o;have zs':=aD OB10.o;clear hG hgr hat' hl2))
 all_goals
  have RB10:=qK RB HB10.o;obtain⟨⟨u0,u1⟩,f0,f1⟩:=fJ RB10.o;have zu:=aD RB10.o;have n1:¬w.heap.size+1=wo.heap.size:=qA HZ0.o;have n2:¬wo.heap.size=w.heap.size+1:=qA HZ0.o;go_wp2;refine bR (.agg #[.complex .f64 ma mb,.slice A2 l2.length c4]) ?_;refine⟨.slice A2 l2.length c4,by rw[HJ3.o,HMA2.o,HMB2.o],?_,nX (aC HBW.o (HB10.o.setCell (p:=⟨wo.heap.size,1,none⟩) (lR _) _)) (Nat.le_succ _)⟩;have hsl:=(eI (enc:=EE) (good:=yF) (ok':=fun b=>W2.heap.size<=b) HG10.o).sl (by rw[HL10.o,aL,HRS.o];have h1:=HRL.o;have h2:=HDL.o;omega) (fun b=>W2.heap.size<=b) (fun b hb _=>hb) (fun b hb _=>hb) aO;rw[HJ3.o];have e10:l2=RES++gO p.aC0 m:=by rw[HL10.o,HRS.o]
  rw[<-e10];refine aH.more aO (aH.aCT aO hsl (((aI (g:=wo.heap.size) (i:=1) _).mono fun k hk hb=>by have h1:W2.heap.size<=k:=hb;have h2:=HZ2.o;show k≠wo.heap.size;omega).trans ((((aI (g:=w.heap.size+1) (i:=0) _).trans (aI (g:=w.heap.size+1) (i:=1) _)).mono fun k hk hb=>by have h1:W2.heap.size<=k:=hb;have h2:=HZ2.o;have h3:=HZ0.o;show k≠w.heap.size+1;omega)))) (fun b hb=>by have h1:W2.heap.size<=b:=hb;have h2:=HZ2.o;have h3:=HZ0.o;show w.heap.size<=b;omega)):p:=h
section
variable {α:Type} {R:Rep α} {s:Nat} {P:Program} {w:World} {t e:TypeId} {bytes:Nat} {base:Nat} {ok:nP}
theorem VN(E:dV P t e s bytes)(F:Firm R s){ops:Array Oper}{o:Oper}{a:Act}{K:Act->World->Prop}{Q:Exit->Act->World->Prop}{G:Prop}(m:o.guard=none)(f x:Operand)
 (n:o.op=.call {callee:= .builtin .append,args:=#[f,x],argTypes:=#[t,t]})
 (v:Value)(l:List α)(p:a.eval f=v)(i:aM R s e w base ok v l)
 (g:Value)(y:List α)(q:a.eval x=g)(r:aH R w (fun b=>ok b/\b<w.heap.size/\some b≠v.ownBlock) g y)
 (h63:l.length+y.length<=1000000)(k:bytes<=10000)(j:base<=w.heap.size)
 (h:∀l',Hid (l'=l++y)->∀c d w',aM R s e w' base ok (.slice c l'.length d) l'->w.grownBy w' v.ownBlock->((Value.slice c l'.length d).ownBlock=v.ownBlock\/(Value.slice c l'.length d).ownBlock=some w.heap.size)->K (a.put o.dst (.slice c l'.length d)) w'):if Region.wanted o (yielded ops a.tmps)=true then Oper.wp P o a w K Q else G:=by
 rw[iP (by simp[Region.wanted,m])];exact Kb E F f x n v l p i g y q r h63 k j h
end
theorem GS{first:Bool}{m:Mk}{l:List Rs}{k:Nat}(a:k<l.length):gG first m (l.drop k)=if l[k].1≠m then gG first m (l.drop (k+1)) else if first=true then l[k].2 else l[k].2++gG first m (l.drop (k+1)):=by
 rw[List.drop_eq_getElem_cons a];rfl
theorem LF(first:Bool)(m:Mk):∀l:List Rs,(gG first m l).length<=(l.map (·.2.length)).sum
 | []=>Nat.zero_le _
 |x::l=>by
  have:=LF first m l
  unfold gG;rw[List.map_cons,List.sum_cons];split
  .omega
  split
  .omega
  .rw[aL];omega
theorem Pw(l:List Rs)(k:Nat)(a:k<l.length):(l.take k).map (·.1)++[l[k].1]=(l.take (k+1)).map (·.1):=by
 rw[List.take_succ_eq_append_getElem a,List.map_append];rfl
theorem Ke{ok okp:nP}{lv:Nat}(p:Po)(vt vr vk vo:Value)(t:Nat)(ht:t<=2)(vp:Value)(parts:List Rs)(w:World)(hp:fM lv w okp p vt vr vk vo)(h:aH Ka w ok vp parts)(hn:(parts.map (·.2.length)).sum<=900000)(ho:p.aC0.length<=50000)(ba:parts.length<=100000):
 Calls prog 200 #[.agg #[.string p.id,.bool p.set,.int .i64 p.alg,vt,vr,vk,vo],.int .i64 t,vp] w (mX (rK p.alg p.aC0 t parts) w):=by
 obtain⟨ta,tc,rfl,_⟩:=hp.2.2.1.slice;obtain⟨ra,rc,rfl,_⟩:=hp.2.2.2.1.slice;obtain⟨ka,kc,rfl,_⟩:=hp.2.2.2.2.1.slice;obtain⟨oa,oc,rfl,_⟩:=hp.2.2.2.2.2.slice;obtain⟨pa,pc,rfl,bx⟩:=h.slice;have HS:=aA h;have HOB:=aA hp.2.2.2.2.2;obtain⟨S,aq⟩:∃S:Obj,S=.cells (kH p ta tc ra rc ka kc oa oc) 38:=⟨_,rfl⟩;obtain⟨T,ar⟩:∃T:Obj,T=.cells #[.complex .f64 0 0,.slice none 0 0] 124:=⟨_,rfl⟩;obtain⟨W0,ah⟩:=xE ((w.alloc S).alloc T);have av:=aA (ah▸KZ w S T:Kp w w.heap.size (w.heap.size+1) S T W0);rw[aq,ar] at ah;obtain⟨bo,bk,bl⟩:=aY ah aq ar;have N:∀x∈parts.map (·.1),Cm.fL x=true:=fun x Q=>by
  obtain⟨r,hr,rfl⟩:=List.mem_map.1 Q;obtain⟨k,hk,rfl⟩:=List.getElem_of_mem hr;obtain⟨_,_,_,_,_,_,⟨_,_,hh⟩,_⟩:=aH.at kK h hk qe;exact hh.1
 have bh:=aA N;obtain⟨m,hm⟩:∃m,BP p.alg (parts.map (·.1))=m:=⟨_,rfl⟩;have az:=aA (hm▸PH p.alg (parts.map (·.1)) N:Cm.fL m=true);have au:=aA (fun (a:oD) (c:Nat) (w':World) (hs:Sl w' w'.heap.size a (Cm.vm (parts.map (·.1))))=>Cm.ZO p.alg a c parts.length (parts.map (·.1)) (by rw[List.length_map]) w' _ (by unfold maxLen;omega) (fun x Q=>yU (N x Q)) hs);have ay:=aA ((Vj p.alg (parts.map (·.1)) N).trans hm);have z:Hid (rK p.alg p.aC0 t parts=if t=0 then ((0,0),[]) else if t=1 then (tQ m,[]) else if m≠(4,0)/\m≠(0,4) then (m,[]) else (m,gG (decide (p.alg=3)) m parts++gO p.aC0 m)):=aA (by unfold rK;simp only[hm]);obtain⟨J,hJ⟩:∃J,rK p.alg p.aC0 t parts=J:=⟨_,rfl⟩;rw[hJ] at z ⊢;obtain⟨HN,bm,bn⟩:=aY hn ho ba;have bz:=uD;obtain⟨alg,br⟩:∃alg,p.alg=alg:=⟨_,rfl⟩;clear h hp ah aq ar N hm hJ hn ho ba br alg;go_enter func200,ntmps200;go_wp2;rw[<-bo.o];go_loopw [7,17] (fun v i wr=>∃(k:Nat) (a':oD) (c':Nat),k<=parts.length/\i=.int .i64 k/\v=.slice a' k c'/\Hid (aM Yj 1 69 wr W0.heap.size (fun _=>True) (.slice a' k c') ((parts.take k).map (·.1)))/\Hid (Below W0.heap.size W0 wr)) (fun _ i _=>parts.length - (intOf i).toNat)
 case atStart=>exact⟨0,none,0,qo,rfl,rfl,aA aM.nil,aA (Below.refl _ _)⟩
 case round=>
  obtain⟨k,a',c',hk,rfl,rfl,HG,G⟩:=hrel;by_cases y:k<parts.length
  .have M:(k:Int)<(parts.length:Int):=qo;obtain⟨b,off,r,rfl,_,a7,⟨vx,rfl,d⟩,j⟩:=aH.at kK (HS.o.on kK (aC av.o.1 G.o)) y qe;obtain⟨xa,xc,rfl,_⟩:=d.2.slice;have B:=j 0 _ rfl;have x1:=j 1 _ rfl;rw[Nat.add_zero] at B;obtain⟨HTF,bf,ax,HSZ⟩:=dD (Pw parts k y) d.1 (show ((parts.take k).map (·.1)).length=k by rw[List.length_map,List.length_take];omega) G.o.size;clear j d;generalize parts[k]=x at *;have bd:=qB G (aB wr (.cells #[.complex .f64 (Cm.qb x.1.1) (Cm.qb x.1.2),.slice xa x.2.length xc] 124));obtain⟨be,bj,HG2⟩:=aY (aC bd.o (aB _ (.cells #[.complex .f64 (Cm.qb x.1.1) (Cm.qb x.1.2)] 69))) (aK (wr.alloc (.cells #[.complex .f64 (Cm.qb x.1.1) (Cm.qb x.1.2),.slice xa x.2.length xc] 124)) (.cells #[.complex .f64 (Cm.qb x.1.1) (Cm.qb x.1.2)] 69) (wr.heap.size+1) qs) (HG.o.on Jz (aC (aB wr (.cells #[.complex .f64 (Cm.qb x.1.1) (Cm.qb x.1.2),.slice xa x.2.length xc] 124)) (aB _ (.cells #[.complex .f64 (Cm.qb x.1.1) (Cm.qb x.1.2)] 69))));clear HG;go_wp2_with (at_builtin;refine cB (base:=W0.heap.size) aCs Jz rfl (.tmp 21) (.tmp 24) rfl _ ((parts.take k).map (·.1)) rfl HG2.o (wr.heap.size+1) 1 _ _ _ x.1 rfl bj.o ⟨rfl,bf.o⟩ (by rw[ax.o];have:=bn.o;omega) qo (by have:=HSZ.o;simp only[World.size_alloc];omega) ?_;intro l' s A' c2 A hG hgr hat';have HG9:=aA hG;have HB9:=aA (HG2.o.below be.o hgr (lR _) (by have:=HSZ.o;simp only[World.size_alloc];omega));have HL9:=aA s.o;clear hG hgr hat' s)
   have e9:l'.length=k+1:=by rw[HL9.o,aL,ax.o];rfl
   exact QBU
  .have M:¬(k:Int)<(parts.length:Int):=qo;obtain rfl:k=parts.length:=qo;obtain⟨wo,rfl⟩:∃wo:World,wo=wr:=⟨_,rfl⟩;have hG:=HG.o;rw[List.take_of_length_le (lR _)] at hG;obtain⟨cs,h1,h2⟩:=hG;have bs:=VI h2;subst bs;obtain⟨aw,cw,H,_,h3,_⟩:=lK h1;injection H with H e2 I;subst H I;have U:=aA (au.o a' c' wo h3);have ai:=aA (av.o.on G.o);have PB:=aA (by have h:=ai.o.2.1;rw[bk.o] at h;exact h:wo.heap[w.heap.size]? =some (.cells (kH p ta tc ra rc ka kc oa oc) 38 (0,0)));have RB:=aA (by have h:=ai.o.2.2;rw[bl.o] at h;exact h:wo.heap[w.heap.size+1]? =some (.cells #[.complex .f64 0 0,.slice none 0 0] 124 (0,0)));clear h1 h2 h3 e2 HG G;obtain⟨⟨v0,v1,v2,v3,v4,v5,v6⟩,_⟩:=bI PB.o;obtain⟨⟨u0,u1⟩,f0,f1⟩:=fJ RB.o;have zv:=aD PB.o;have zu:=aD RB.o;unfold Cm.mkE at U;rw[ay.o] at U;go_wp2_with fail;refine U.o.mono ?_;rintro e wx ⟨rfl,rfl⟩;clear U;clear v0 v1 v2 v3 v4 v5 v6 zv;have HBW:=aA ai.o.1;have bu:t=0\/t=1\/t=2:=qo
   rcases bu with bb|bc|bt
   .have a6:((t:Int)==0)=true:=bQ.2 qo;have HJ2:=aA (by have h:=z.o;rwa [iP bb] at h:J=((0,0),[]));clear z bb ht;exact QCI
   .have a6:((t:Int)==0)=false:=bN.2 qo;have bq:((t:Int)==1)=true:=bQ.2 qo;have HJ2:=aA (by have h:=z.o;rwa [iN qo,iP bc] at h:J=(tQ m,[]));have bg:Hid (∀w,Calls prog 235 #[.complex .f64 (Cm.qb m.1) (Cm.qb m.2)] w fun e w'=>e=.returned (.complex .f64 (Cm.qb (tQ m).1) (Cm.qb (tQ m).2))/\w=w'):=aA (fun w=>Cm.aAS m (yU az.o) w);generalize tQ m=mi at *;clear z bc ht;go_wp2_with fail;refine(bg.o _).mono ?_;rintro e wx ⟨rfl,rfl⟩;go_wp2;refine bR (.agg #[.complex .f64 (Cm.qb mi.1) (Cm.qb mi.2),.slice none 0 0]) ?_;exact tD (a:=mi.1) (b:=mi.2) HJ2.o (nX HBW.o (Nat.le_succ _)) rfl rfl
   .have a6:((t:Int)==0)=false:=bN.2 qo;have bq:((t:Int)==1)=false:=bN.2 qo;have HJ2:=aA (by have h:=z.o;rwa [iN qo,iN qo] at h:J=if m≠(4,0)/\m≠(0,4) then (m,[]) else (m,gG (decide (p.alg=3)) m parts++gO p.aC0 m));obtain⟨PP,K⟩:∃P,decide (m=(4,0))=P:=⟨_,rfl⟩;obtain⟨DD,hD⟩:∃D,decide (m=(0,4))=D:=⟨_,rfl⟩;have F:=yU az.o;have W:Hid (((FloatKind.f64.format.order (Cm.qb m.1) 4607182418800017408==some .eq)&&(FloatKind.f64.format.order (Cm.qb m.2) 0==some .eq))=PP):=aA ((Cm.iS m.1 m.2 4 0 F qe qe).trans ((sB m (4,0)).trans K));have X:Hid (((FloatKind.f64.format.order (Cm.qb m.1) 0==some .eq)&&(FloatKind.f64.format.order (Cm.qb m.2) 4607182418800017408==some .eq))=DD):=aA ((Cm.iS m.1 m.2 0 4 F qe qe).trans ((sB m (0,4)).trans hD));have Y:Hid (∀x:Mk,Cm.fL x=true->((FloatKind.f64.format.order (Cm.qb x.1) (Cm.qb m.1)==some .eq)&&(FloatKind.f64.format.order (Cm.qb x.2) (Cm.qb m.2)==some .eq))=decide (x=m)):=aA (fun x Q=>(Cm.iS x.1 x.2 m.1 m.2 (yU Q) F.1 F.2).trans (sB x m));have HDU:Hid (∀w' ok v,aH jU w' ok v p.aC0->Calls prog 236 #[v,.complex .f64 (Cm.qb m.1) (Cm.qb m.2)] w' (wM (gO p.aC0 m) w')):=aA (fun w' ok v h=>xZ v p.aC0 m F w' h);have HDL:Hid ((gO p.aC0 m).length<=50000):=aA (lT (List.length_filter_le _ _) bm.o);obtain⟨ma,an⟩:∃ma,Cm.qb m.1=ma:=⟨_,rfl⟩;obtain⟨mb,ao⟩:∃mb,Cm.qb m.2=mb:=⟨_,rfl⟩;rw[an,ao] at W X Y HDU ⊢;have HMA2:=aA an;have HMB2:=aA ao;unfold wM at HDU;have aj:Hid ((PP=false/\DD=false/\J=(m,[]))\/((PP=true\/(PP=false/\DD=true))/\J=(m,gG (decide (p.alg=3)) m parts++gO p.aC0 m))):=aA (by
     have hj:=HJ2.o;by_cases h4:m=(4,0)
     .rw[iN (fun h=>h.1 h4)] at hj;exact .inr ⟨.inl (by rw[<-K];exact dX h4),hj⟩
     .by_cases h5:m=(0,4)
      .rw[iN (fun h=>h.2 h5)] at hj;exact .inr ⟨.inr ⟨by rw[<-K];exact dF h4,by rw[<-hD];exact dX h5⟩,hj⟩
      .rw[iP ⟨h4,h5⟩] at hj;exact .inl ⟨by rw[<-K];exact dF h4,by rw[<-hD];exact dF h5,hj⟩)
    clear z HJ2 K hD an ao F bt ht ay au bh
    rcases aj.o with ⟨rfl,rfl,hj⟩|⟨a8,hj⟩
    .have HJ3:=aA hj;have H:=W.o;have e2:=X.o;clear hj Y aj;go_wp2;refine bR (.agg #[.complex .f64 ma mb,.slice none 0 0]) ?_;exact tD (a:=m.1) (b:=m.2) HJ3.o (nX HBW.o (Nat.le_succ _)) HMA2.o HMB2.o
    have HJ3:=aA hj;have a1:=aA a8;clear hj a8 aj u0 u1 f0 f1 zu;obtain⟨RES,O⟩:=xE (gG (decide (p.alg=3)) m parts);rw[<-O] at HJ3;obtain⟨first,al⟩:∃f,decide (p.alg=3)=f:=⟨_,rfl⟩;rw[al] at O;have HR0:=aA (by rw[List.nil_append,List.drop_zero];exact O.symm:([]:List Ob)++gG first m (parts.drop 0)=RES);have HRL:Hid (RES.length<=900000):=aA (by rw[O];exact lT (LF _ _ _) HN.o);have bw:(p.alg==3)=first:=al
    obtain⟨W2,L⟩:=xE (wo.alloc (.cells #[.complex .f64 ma mb,.slice none 0 0] 124));obtain⟨bp,OB0,HZ2,HB0,HZ0⟩:=gC L (L▸aK wo (.cells #[.complex .f64 ma mb,.slice none 0 0] 124) _ rfl:W2.heap[wo.heap.size]? =some (.cells #[.complex .f64 ma mb,.slice none 0 0] 124 (0,0))) (by rw[L,World.size_alloc]:W2.heap.size=wo.heap.size+1) (L▸aB wo _:Below wo.heap.size wo W2) (aD RB.o);clear O al L;go_upto_region 12 with (fail)
    go_cut [44] from 45 to 50 (fun v w'=>v=.bool false/\wo=w')
    case first=>
     rcases a1.o with rfl|⟨rfl,rfl⟩
     all_goals
      have H:=W.o;have e2:=X.o;go_wp2;go_meet;exact⟨rfl,rfl⟩
    case rest=>
     obtain⟨hv,hw⟩:=hcut;subst hv;subst hw;clear W X a1;go_wp2;rw[<-bp.o]
     rcases first with _|_
     .go_loopw [57] (fun i wr=>∃(k n:Nat) (a2:oD) (c2:Nat) (st:List Ob),k<=parts.length/\i=.int .i64 k/\Hid (n=st.length)/\Hid (wr.heap[wo.heap.size]? =some (.cells #[.complex .f64 ma mb,.slice a2 n c2] 124 (0,0)))/\Hid (aM jU 3 191 wr W2.heap.size (fun b=>b≠wo.heap.size) (.slice a2 n c2) st)/\Hid (st++gG false m (parts.drop k)=RES)/\Hid (Below wo.heap.size wo wr)/\Hid (W2.heap.size<=wr.heap.size)) (fun i _=>parts.length - (intOf i).toNat)
      case atStart=>exact QDa
      case round=>
       clear HR0 OB0 HB0;obtain⟨k,n,a2,c2,st,hk,rfl,HNS,OBQ,HG,HST,HBQ,HSZ⟩:=hrel;have PBQ:=qK PB HBQ.o;by_cases y:k<parts.length
       .have M:(k:Int)<(parts.length:Int):=qo;obtain⟨b,off,r,rfl,_,a7,⟨vx,rfl,d⟩,j⟩:=aH.at kK ((HS.o.inb kK).aCT kK (aJ (aC HBW.o HBQ.o))) y qe;obtain⟨xa,xc,rfl,_⟩:=d.2.slice;have B:=j 0 _ rfl;have x1:=j 1 _ rfl;rw[Nat.add_zero] at B;obtain⟨HPS,HX3,ak⟩:=aY (GS (first:=false) (m:=m) y) (Y.o parts[k].1 d.1) d.2;clear j d;generalize parts[k]=x at *;obtain⟨eq,heq⟩:∃q,decide (x.1=m)=q:=⟨_,rfl⟩;rw[heq] at HX3;have I:=HX3.o;obtain⟨⟨y0,y1⟩,g0,g1⟩:=fJ OBQ.o;have zy:=aD OBQ.o;obtain⟨⟨v0,v1,v2,v3,v4,v5,v6⟩,_⟩:=bI PBQ.o;have zv:=aD PBQ.o
        cases eq
        .have HST2:Hid (st++gG false m (parts.drop (k+1))=RES):=aA (by have h:=HST.o;rwa [HPS.o,iP (of_decide_eq_false heq)] at h);exact QAJ
        .have R:x.1=m:=of_decide_eq_true heq;have HST2:=aA (by have h:=HST.o;rwa [HPS.o,iN (fun h=>h R)] at h:st++(if false=true then x.2 else x.2++gG false m (parts.drop (k+1)))=RES);have aa:Hid (st.length+x.2.length<=900000):=aA (by
          have h1:=HRL.o;rw[<-HST2.o,aL] at h1;split at h1
          .omega
          .rw[aL] at h1;omega)
         have l:=aA (aB wr (.cells #[.complex .f64 (Cm.qb x.1.1) (Cm.qb x.1.2),.slice xa x.2.length xc] 124));obtain⟨HG2,OBQ2,HBQ2⟩:=aY (HG.o.on aO l.o) (aE OBQ.o l.o) (aC HBQ.o l.o);have C:=aA (HG2.o.lt);have ad:=aA (aH.more aO (aH.on aO ak.o l.o) (ok':=fun b=>b≠wo.heap.size/\b<(wr.alloc (.cells #[.complex .f64 (Cm.qb x.1.1) (Cm.qb x.1.2),.slice xa x.2.length xc] 124)).heap.size/\some b≠(Value.slice a2 n c2).ownBlock) (fun b hb=>⟨qD hb.2 HZ0.o,by have h1:=hb.2;have h2:=HZ0.o;have h3:=HBQ2.o.size;omega,fun e=>by
          have h1:=(C.o b e.symm).1;have h2:=hb.2;have h3:=HZ2.o;have h4:=HZ0.o;omega⟩))
         have ag:=aA (aD OBQ2.o);have HSZ2:Hid (W2.heap.size<=(wr.alloc (.cells #[.complex .f64 (Cm.qb x.1.1) (Cm.qb x.1.2),.slice xa x.2.length xc] 124)).heap.size):=aA (by have:=HSZ.o;rw[World.size_alloc];omega);clear heq HPS HST HG HX3 R;go_wp2_with (at_builtin;refine AR (base:=W2.heap.size) VH aO rfl (.tmp 66) (.tmp 68) rfl _ st rfl HG2.o _ x.2 rfl ad.o (qA aa.o) qe HSZ2.o ?_;intro l' s A' c3 A hG hgr hat';have HG9:=aA hG;have HL9:=aA s.o;have o:=aA ((hgr.block _ ag.o (fun e=>by have h1:=(C.o _ e.symm).1;have h2:=HZ2.o;omega)).trans OBQ2.o);have HB9:=aA (HG2.o.below HBQ2.o hgr (qA HZ2.o) HSZ2.o);have ab:=aA (lT HSZ2.o hgr.size);obtain⟨⟨s0,s1⟩,t0,t1⟩:=fJ o.o;have zs:=aD o.o;clear y0 y1 g0 g1 zy v0 v1 v2 v3 v4 v5 v6 zv B x1 I hG hgr hat' s;have E:=qK PB HB9.o;obtain⟨⟨v0,v1,v2,v3,v4,v5,v6⟩,_⟩:=bI E.o;have zv:=aD E.o)
         have af:Hid ((A.setCell ⟨wo.heap.size,1,none⟩ (.slice A' l'.length c3)).heap[wo.heap.size]? =some (.cells #[.complex .f64 ma mb,.slice A' l'.length c3] 124 (0,0))):=aA (aG o.o 1 (.slice A' l'.length c3));have Z:=aA (HG9.o.aCT aO (ok':=fun b=>b≠wo.heap.size) (aI (g:=wo.heap.size) (i:=1) (.slice A' l'.length c3)) (fun b hb _=>hb) (fun b hb _=>qA HZ2.o));have ae:Hid (W2.heap.size<=(A.setCell ⟨wo.heap.size,1,none⟩ (.slice A' l'.length c3)).heap.size):=aA (lT ab.o (aI (g:=wo.heap.size) (i:=1) (.slice A' l'.length c3)).size);have V:=aA (HB9.o.setCell (p:=⟨wo.heap.size,1,none⟩) (lR _) (.slice A' l'.length c3));go_wp2;go_roundw
         case rel=>exact⟨k+1,l'.length,A',c3,l',qo,by go_num,aA rfl,af,Z,aA (by have h:=HST2.o;rw[iN qe,<-List.append_assoc,<-HL9.o] at h;exact h),V,ae⟩
         case measure=>simp[intOf];omega
       .have M:¬(k:Int)<(parts.length:Int):=qo;obtain rfl:k=parts.length:=qo;have HRS:Hid (st=RES):=aA (by have h:=HST.o;rw[List.drop_length] at h;have e:gG false m []=[]:=rfl;rwa [e,List.append_nil] at h);exact QAd
     .go_loopw [57] (fun i wr=>∃(k n:Nat) (a2:oD) (c2:Nat) (st:List Ob),k<=parts.length/\i=.int .i64 k/\Hid (n=st.length)/\Hid (wr.heap[wo.heap.size]? =some (.cells #[.complex .f64 ma mb,.slice a2 n c2] 124 (0,0)))/\Hid (aM jU 3 191 wr W2.heap.size (fun b=>b≠wo.heap.size) (.slice a2 n c2) st)/\Hid (st++gG true m (parts.drop k)=RES)/\Hid (Below wo.heap.size wo wr)/\Hid (W2.heap.size<=wr.heap.size)) (fun i _=>parts.length - (intOf i).toNat)
      case atStart=>exact QDa
      case round=>
       clear HR0 OB0 HB0;obtain⟨k,n,a2,c2,st,hk,rfl,HNS,OBQ,HG,HST,HBQ,HSZ⟩:=hrel;have PBQ:=qK PB HBQ.o;by_cases y:k<parts.length
       .have M:(k:Int)<(parts.length:Int):=qo;obtain⟨b,off,r,rfl,_,a7,⟨vx,rfl,d⟩,j⟩:=aH.at kK ((HS.o.inb kK).aCT kK (aJ (aC HBW.o HBQ.o))) y qe;obtain⟨xa,xc,rfl,_⟩:=d.2.slice;have B:=j 0 _ rfl;have x1:=j 1 _ rfl;rw[Nat.add_zero] at B;obtain⟨HPS,HX3,ak⟩:=aY (GS (first:=true) (m:=m) y) (Y.o parts[k].1 d.1) d.2;clear j d;generalize parts[k]=x at *;obtain⟨eq,heq⟩:∃q,decide (x.1=m)=q:=⟨_,rfl⟩;rw[heq] at HX3;have I:=HX3.o;obtain⟨⟨y0,y1⟩,g0,g1⟩:=fJ OBQ.o;have zy:=aD OBQ.o;obtain⟨⟨v0,v1,v2,v3,v4,v5,v6⟩,_⟩:=bI PBQ.o;have zv:=aD PBQ.o
        cases eq
        .have HST2:Hid (st++gG true m (parts.drop (k+1))=RES):=aA (by have h:=HST.o;rwa [HPS.o,iP (of_decide_eq_false heq)] at h);exact QAJ
        .have R:x.1=m:=of_decide_eq_true heq;have HST2:=aA (by have h:=HST.o;rwa [HPS.o,iN (fun h=>h R)] at h:st++(if true=true then x.2 else x.2++gG true m (parts.drop (k+1)))=RES);have aa:Hid (st.length+x.2.length<=900000):=aA (by
          have h1:=HRL.o;rw[<-HST2.o,aL] at h1;split at h1
          .omega
          .rw[aL] at h1;omega)
         have l:=aA (aB wr (.cells #[.complex .f64 (Cm.qb x.1.1) (Cm.qb x.1.2),.slice xa x.2.length xc] 124));obtain⟨HG2,OBQ2,HBQ2⟩:=aY (HG.o.on aO l.o) (aE OBQ.o l.o) (aC HBQ.o l.o);have C:=aA (HG2.o.lt);have ad:=aA (aH.more aO (aH.on aO ak.o l.o) (ok':=fun b=>b≠wo.heap.size/\b<(wr.alloc (.cells #[.complex .f64 (Cm.qb x.1.1) (Cm.qb x.1.2),.slice xa x.2.length xc] 124)).heap.size/\some b≠(Value.slice a2 n c2).ownBlock) (fun b hb=>⟨qD hb.2 HZ0.o,by have h1:=hb.2;have h2:=HZ0.o;have h3:=HBQ2.o.size;omega,fun e=>by
          have h1:=(C.o b e.symm).1;have h2:=hb.2;have h3:=HZ2.o;have h4:=HZ0.o;omega⟩))
         have ag:=aA (aD OBQ2.o);have HSZ2:Hid (W2.heap.size<=(wr.alloc (.cells #[.complex .f64 (Cm.qb x.1.1) (Cm.qb x.1.2),.slice xa x.2.length xc] 124)).heap.size):=aA (by have:=HSZ.o;rw[World.size_alloc];omega);clear heq HPS HST HG HX3 R;go_wp2_with (at_builtin;refine AR (base:=W2.heap.size) VH aO rfl (.tmp 66) (.tmp 68) rfl _ st rfl HG2.o _ x.2 rfl ad.o (qA aa.o) qe HSZ2.o ?_;intro l' s A' c3 A hG hgr hat';have HG9:=aA hG;have HL9:=aA s.o;have o:=aA ((hgr.block _ ag.o (fun e=>by have h1:=(C.o _ e.symm).1;have h2:=HZ2.o;omega)).trans OBQ2.o);have HB9:=aA (HG2.o.below HBQ2.o hgr (qA HZ2.o) HSZ2.o);have ab:=aA (lT HSZ2.o hgr.size);obtain⟨⟨s0,s1⟩,t0,t1⟩:=fJ o.o;have zs:=aD o.o;clear y0 y1 g0 g1 zy v0 v1 v2 v3 v4 v5 v6 zv B x1 I hG hgr hat' s;have E:=qK PB HB9.o;obtain⟨⟨v0,v1,v2,v3,v4,v5,v6⟩,_⟩:=bI E.o;have zv:=aD E.o)
         have af:Hid ((A.setCell ⟨wo.heap.size,1,none⟩ (.slice A' l'.length c3)).heap[wo.heap.size]? =some (.cells #[.complex .f64 ma mb,.slice A' l'.length c3] 124 (0,0))):=aA (aG o.o 1 (.slice A' l'.length c3));have Z:=aA (HG9.o.aCT aO (ok':=fun b=>b≠wo.heap.size) (aI (g:=wo.heap.size) (i:=1) (.slice A' l'.length c3)) (fun b hb _=>hb) (fun b hb _=>qA HZ2.o));have ae:Hid (W2.heap.size<=(A.setCell ⟨wo.heap.size,1,none⟩ (.slice A' l'.length c3)).heap.size):=aA (lT ab.o (aI (g:=wo.heap.size) (i:=1) (.slice A' l'.length c3)).size);have V:=aA (HB9.o.setCell (p:=⟨wo.heap.size,1,none⟩) (lR _) (.slice A' l'.length c3));have HRS:Hid (l'=RES):=aA (by have h:=HST2.o;rw[iP trivial,<-HL9.o] at h;exact h);have n3:¬w.heap.size=wo.heap.size:=qA HZ0.o;have n4:¬wo.heap.size=w.heap.size:=qA HZ0.o;go_wp2;obtain⟨WW,hWW⟩:∃WW:World,WW=A.setCell ⟨wo.heap.size,1,none⟩ (.slice A' l'.length c3):=⟨_,rfl⟩;rw[<-hWW] at af Z ae V ⊢;clear hWW;clear s0 s1 t0 t1 zs v0 v1 v2 v3 v4 v5 v6 zv HST2 HG2 OBQ2 HBQ2 HSZ2 o HG9 HB9 ab E C ad ag l PBQ aa;obtain⟨OBWW,HGW,HBT,HSW⟩:=dD af.o Z.o V.o ae.o;have PBWW:=qK PB HBT.o;obtain⟨⟨y0,y1⟩,g0,g1⟩:=fJ OBWW.o;have zy:=aD OBWW.o;obtain⟨⟨v0,v1,v2,v3,v4,v5,v6⟩,_⟩:=bI PBWW.o;have zv:=aD PBWW.o;have RBWW:=qK RB HBT.o;have HDW:=aA (fun (w':World) (hb:Below WW.heap.size WW w')=>HDU.o w' okp _ (HOB.o.on aO (aC HBW.o (aC HBT.o hb))));go_region_law (first
          |(go_simp;go_at_call 236;refine(HDW.o _ (Below.refl _ _).drew).mono ?_;rintro e wd ⟨dv,rfl,hds,hbd⟩;obtain⟨da,dc,rfl,_⟩:=hds.slice;have HBD:=aA (aC (Below.refl WW.heap.size WW).drew hbd);have HDS:=aA (hds.inb aO);have OBD:=qK OBWW HBD.o;obtain⟨⟨z0,z1⟩,h0,h1⟩:=fJ OBD.o;have zz:=aD OBD.o;clear hbd hds)
          |(refine VN (base:=W2.heap.size) VH aO rfl (.tmp 76) (.tmp 80) rfl _ l' rfl (HGW.o.on aO HBD.o) _ (gO p.aC0 m) rfl (aH.more aO HDS.o (fun b hb=>⟨by have h1:=hb.1;have h2:=aD OBWW.o;have h3:WW.heap.size<=b:=h1;omega,hb.2,fun e=>by have h1:WW.heap.size<=b:=hb.1;have h2:=(HGW.o.lt b e.symm).2;omega⟩)) (by have h1:=HRL.o;have h2:=HDL.o;rw[<-HRS.o] at h1;omega) qe (lT HSW.o HBD.o.size) ?_;intro l2 hl2 A2 c4 w10 hG hgr hat';have HG10:=aA hG;have HL10:=aA hl2.o;have HB10:=aA ((HGW.o.on aO HBD.o).below (aC HBT.o HBD.o) hgr (qA HZ2.o) (lT HSW.o HBD.o.size));have OB10:=aA ((hgr.block wo.heap.size zz (fun e=>by have h1:=(HGW.o.lt _ e.symm).1;have h2:=HZ2.o;omega)).trans OBD.o);obtain⟨⟨s0',s1'⟩,t0',t1'⟩:=fJ OB10.o;have zs':=aD OB10.o;clear hG hgr hat' hl2))
         all_goals
          have RB10:=qK RB HB10.o;obtain⟨⟨u0,u1⟩,f0,f1⟩:=fJ RB10.o;have zu:=aD RB10.o;have n1:¬w.heap.size+1=wo.heap.size:=qA HZ0.o;have n2:¬wo.heap.size=w.heap.size+1:=qA HZ0.o;go_wp2;refine bR (.agg #[.complex .f64 ma mb,.slice A2 l2.length c4]) ?_;refine⟨.slice A2 l2.length c4,by rw[HJ3.o,HMA2.o,HMB2.o],?_,nX (aC HBW.o (HB10.o.setCell (p:=⟨wo.heap.size,1,none⟩) (lR _) _)) (Nat.le_succ _)⟩;have hsl:=(eI (enc:=EE) (good:=yF) (ok':=fun b=>W2.heap.size<=b) HG10.o).sl (by rw[HL10.o,aL,HRS.o];have h1:=HRL.o;have h2:=HDL.o;omega) (fun b=>W2.heap.size<=b) (fun b hb _=>hb) (fun b hb _=>hb) aO;rw[HJ3.o];have e10:l2=RES++gO p.aC0 m:=by rw[HL10.o,HRS.o]
          rw[<-e10];refine aH.more aO (aH.aCT aO hsl (((aI (g:=wo.heap.size) (i:=1) _).mono fun k hk hb=>by have h1:W2.heap.size<=k:=hb;have h2:=HZ2.o;show k≠wo.heap.size;omega).trans ((((aI (g:=w.heap.size+1) (i:=0) _).trans (aI (g:=w.heap.size+1) (i:=1) _)).mono fun k hk hb=>by have h1:W2.heap.size<=k:=hb;have h2:=HZ2.o;have h3:=HZ0.o;show k≠w.heap.size+1;omega)))) (fun b hb=>by have h1:W2.heap.size<=b:=hb;have h2:=HZ2.o;have h3:=HZ0.o;show w.heap.size<=b;omega)
       .have M:¬(k:Int)<(parts.length:Int):=qo;obtain rfl:k=parts.length:=qo;have HRS:Hid (st=RES):=aA (by have h:=HST.o;rw[List.drop_length] at h;have e:gG true m []=[]:=rfl;rwa [e,List.append_nil] at h);exact QAd
def IZ:Nat->Po->Prop
 |0,_=>False
 |n+1,p=>p.aCM.length<=16/\p.aCY.length<=16/\p.aC0.length<=8/\(∀r∈p.aCM,r.aC0.length<=8)/\∀k∈p.aCY,IZ n k
def yA:Nat->Nat
 |0=>0
 |n+1=>136+16 * yA n
theorem LG{l:List Ob}(h:lC l=0):l.length<=8:=by
 unfold lC at h;by_cases h8:8<l.length
 .rw[iP h8] at h;exact absurd h qe
 .omega
theorem Ei{r:Ru}{s:WS}(h:(fR r s).1=0):r.aC0.length<=8:=by
 unfold fR at h;generalize gN r.id s=q at *;obtain⟨b,s1⟩:=q;simp only at h;by_cases h1:b=false
 .rw[iP h1] at h;simp at h
 rw[iN h1] at h;by_cases h2:64<s1.aCM+1
 .rw[iP h2] at h;simp at h
 rw[iN h2] at h;by_cases h3:eX r.aCU=0
 case neg=>rw[iP h3] at h;exact absurd h h3
 rw[iN (fun a=>a h3)] at h;by_cases h4:lB r.cond=0
 case neg=>rw[iP h4] at h;exact absurd h h4
 rw[iN (fun a=>a h4)] at h;exact LG h
theorem Ej{p:Po}{s:WS}(h:(fH p s).1=0):p.aC0.length<=8:=by
 unfold fH at h;generalize gN p.id s=q at *;obtain⟨b,s1⟩:=q;simp only at h;by_cases h1:b=false\/p.alg<1\/6<p.alg
 .rw[iP h1] at h;simp at h
 rw[iN h1] at h;by_cases h2:(p.set=true/\p.aCM≠[])\/(p.set=false/\(0<p.aCY.length\/p.alg=4))
 .rw[iP h2] at h;simp at h
 rw[iN h2] at h;by_cases h3:eX p.aCU=0
 case neg=>rw[iP h3] at h;exact absurd h h3
 rw[iN (fun a=>a h3)] at h;by_cases h4:lC p.aC0=0
 case neg=>rw[iP h4] at h;exact absurd h h4
 exact LG h4
theorem JA{α:Type}{f:α->WS->Int×WS}{Q:α->Prop}(b:∀x s,(f x s).1=0->Q x):∀(l:List α) (s:WS),(jB f l s).1=0->∀x∈l,Q x
 | [],_,_,x,a=>by cases a
 |y::l,s,h,x,a=>by
  unfold jB at h;by_cases h1:(f y s).1=0
  .rcases List.mem_cons.1 a with rfl|a
   .exact b _ _ h1
   .refine JA b l (f y s).2 ?_ x a;simp only[h1,ne_eq,not_true,if_false] at h;exact h
  .simp only[ne_eq,h1,not_false_iff,if_true] at h
theorem Ag:∀(n:Nat) (p:Po) (s:WS),(eN n p s).1=0->IZ n p
 |0,_,_,h=>by simp[eN] at h
 |n+1,p,s,h=>by
  unfold eN at h;by_cases h1:(fH p s).1=0
  case neg=>simp only[ne_eq,h1,not_false_iff,if_true] at h
  simp only[h1,ne_eq,not_true,if_false] at h;by_cases h2:(jB fR p.aCM (fH p s).2).1=0
  case neg=>simp only[h2,not_false_iff,if_true] at h
  simp only[h2,not_true,if_false] at h;exact⟨(vB h1).1,(vB h1).2,Ej h1,JA (fun x s a=>Ei a) _ _ h2,JA (fun x s a=>Ag n x s a) _ _ h⟩
theorem LH{p:Po}(h:fL p=0):IZ 4 p:=Ag 4 p _ h
theorem LI(l:List Ob)(m:Mk):(gO l m).length<=l.length:=List.length_filter_le _ _
theorem Kf(g:List Gv)(r:Ru):(iA g r).2.length<=r.aC0.length:=by
 unfold iA EC;simp only;split
 .exact Nat.zero_le _
 split
 .exact Nat.zero_le _
 .exact LI _ _
theorem PJ(first:Bool)(m:Mk):∀l:List (Mk×List Ob),(gG first m l).length<=(l.map (·.2.length)).sum
 | []=>Nat.zero_le _
 |x::l=>by
  have:=PJ first m l
  unfold gG;rw[List.map_cons,List.sum_cons];split
  .omega
  split
  .omega
  .rw[aL];omega
theorem Kg(alg:Int)(obls:List Ob)(t:Nat)(l:List (Mk×List Ob)):(rK alg obls t l).2.length<=(l.map (·.2.length)).sum+obls.length:=by
 unfold rK;simp only;split
 .exact Nat.zero_le _
 split
 .exact Nat.zero_le _
 split
 .exact Nat.zero_le _
 .have h1:=PJ (decide (alg=3)) (BP alg (l.map (·.1))) l;have h2:=LI obls (BP alg (l.map (·.1)));rw[aL];omega
theorem VO{α:Type}(f:α->Nat)(b:Nat):∀l:List α,(∀x∈l,f x<=b)->(l.map f).sum<=l.length * b
 | [],_=>Nat.zero_le _
 |x::l,h=>by
  have h1:=VO f b l (fun y a=>h y (List.mem_cons_of_mem _ a));have h2:=h x (List.mem_cons_self ..);rw[List.map_cons,List.sum_cons,List.length_cons,Nat.add_mul];omega
theorem PK{n:Nat}{p:Po}(g:List Gv)(f:∀k∈p.aCY,(cZ g n k).2.length<=yA n)(h:IZ (n+1) p):((p.aCM.map (iA g)++p.aCY.map (cZ g n)).map (·.2.length)).sum<=128+16 * yA n:=by
 obtain⟨h1,h2,_,h4,_⟩:=h;rw[List.map_append,List.sum_append,List.map_map,List.map_map];have a:=VO (fun r=>(iA g r).2.length) 8 p.aCM (fun r i=>lT (Kf g r) (h4 r i));have b:=VO (fun k=>(cZ g n k).2.length) (yA n) p.aCY f;have c:p.aCY.length * yA n<=16 * yA n:=Nat.mul_le_mul_right _ h2;have d:((fun x:Mk×List Ob=>x.2.length) ∘ iA g)=(fun r=>(iA g r).2.length):=rfl;have e:((fun x:Mk×List Ob=>x.2.length) ∘ cZ g n)=(fun k=>(cZ g n k).2.length):=rfl;rw[d,e];omega
theorem yB(g:List Gv):∀(n:Nat) (p:Po),IZ n p->(cZ g n p).2.length<=yA n
 |0,_,h=>h.elim
 |n+1,p,h=>by
  have b:=PK g (fun k a=>yB g n k (h.2.2.2.2 k a)) h;unfold cZ yA;simp only;split
  .exact Nat.zero_le _
  .have hj:=Kg p.alg p.aC0 (xO g p.aCU) (p.aCM.map (iA g)++p.aCY.map (cZ g n));have:=h.2.2.1;omega
theorem Vk:∀n,n<=4->yA n<=600000:=qe
theorem Px{n:Nat}(b:n<=3){p:Po}(g:List Gv)(h:IZ (n+1) p):((p.aCM.map (iA g)++p.aCY.map (cZ g n)).map (·.2.length)).sum<=900000:=by
 have h1:=PK g (fun k a=>yB g n k (h.2.2.2.2 k a)) h;have h2:∀n,n<=3->128+16 * yA n<=900000:=qe;have:=h2 n b;omega
end Go.Proofs.YtgoanbpcdhmfkaaGreatDoor
