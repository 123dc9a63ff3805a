/- Lemmas. -/
import Derived.Test.YthcgdgkpgdjahaaGreatDoorMbi
namespace Go.Proofs.YthcgdgkpgdjahaaGreatDoor
open Go.RowKit
set_option linter.unusedVariables false
set_option linter.unusedSimpArgs false
set_option maxHeartbeats 16000000
open _root_.Go.Proofs.Tryz
set_option maxRecDepth 20000
theorem QCC{p:Prop}(h:p:=by
 go_wp2;go_meet;exact⟨A',l'.length,c2,rfl,aA (by rw[HE9.o]),aA (by have h:=HG9.o;have e:=HE9.o;subst e;exact h),HB9⟩):p:=h
theorem QCz{p:Prop}(h:p:=by
 exact HG10.o.sl (qA HL4.o) _ (fun b hb _=>lT HB0.o.size hb) (fun b hb _=>lT HB0.o.size hb) cA):p:=h
theorem QBP{p:Prop}(h:p:=by
 clear HST hin hrs;go_wp2;go_roundw
 case rel=>exact⟨k2+1,n2,a',c',qo,by go_num,rfl,hn16,aA (by rw[HN2.o,HE.o]),aA (by rw[HE.o];exact HG3.o),HB3⟩
 case measure=>simp[intOf];omega):p:=h
def gZ(l:List xG)(su:bY):List V3:=((l.filter (fun r=>decide (r.1=su))).take 16).map (fun r=>((5,0,r.2):V3))
theorem Aa{l:List xG}{su:bY}{k:Nat}(a:k<l.length):gZ (l.take (k+1)) su=if l[k].1=su/\(gZ (l.take k) su).length<16 then gZ (l.take k) su++[(5,0,l[k].2)] else gZ (l.take k) su:=by
 unfold gZ;rw[List.take_succ_eq_append_getElem a,List.filter_append,List.length_map,List.length_take];by_cases h:l[k].1=su
 .rw[List.filter_cons_of_pos (by simpa using h),List.filter_nil,List.take_append];by_cases h2:((l.take k).filter (fun r=>decide (r.1=su))).length<16
  .rw[iP ⟨h,qo⟩,List.map_append,List.take_of_length_le (l:=[l[k]]) (by simp;omega)];rfl
  .rw[iN (fun h3=>qA h3.2),show 16 - ((l.take k).filter (fun r=>decide (r.1=su))).length=0 by omega];simp
 .rw[List.filter_cons_of_neg (by simpa using h),List.filter_nil,List.append_nil,iN (fun h3=>h h3.1)]
theorem Gk(l:List xG)(su:bY):(gZ l su).length<=16:=by
 unfold gZ;rw[List.length_map,List.length_take];omega
def iY(su:bY)(a:List V3)(act:bY):List Gv:=[(1,⟨#[105,100]⟩,[(5,0,su)]),(1,⟨#[114,111,108,101]⟩,a),(2,⟨#[110,97,109,101]⟩,[(5,0,act)])]
def fV(a:bY):List Gv:=if a.size≠0 then [(2,⟨#[102,105,101,108,100]⟩,[(5,0,a)])] else []
def oU(a:bY):List Gv:=if a.size≠0 then [(2,⟨#[116,111]⟩,[(5,0,a)])] else []
def JZ(s:Sto)(o:Op):List Gv:=match dU s o.aDU with |some c=>if o.aDN≠6 then nW c o.aD3 else []|none=>[]
def MF(c:Option cB)(k:Int)(su:bY):List Gv:=match c with |some c=>if k≠6 then nW c su else []|none=>[]
theorem aAw(s:Sto)(o:Op):qM s o=iY o.aD3 (gZ s.aD1 o.aD3) (cK o.aDN)++fV o.aD7++oU o.to_++[(4,⟨#[110,111,119]⟩,[(4,s.aDX,⟨#[]⟩)])]++JZ s o:=by
 unfold qM iY fV oU JZ sH CY gZ;rw[Zm,Zk,Zp,Wd,aDd,aAX];rfl
theorem MG(x:bY):(!x.toList.isEmpty)=decide (x.size≠0):=by
 by_cases h:x.size=0
 .rw[(fY x [] (nC h)).2,dF (fun k=>k h)];rfl
 .rw[dX h,Bool.not_eq_true',List.isEmpty_eq_false_iff];exact(fP x [] (lE h)).2
theorem XE{x:bY}(h:false=decide (x.size≠0)):x.size=0:=Decidable.not_not.1 (of_decide_eq_false h.symm)
theorem RF{x:bY}(h:true=decide (x.size≠0)):x.size≠0:=of_decide_eq_true h.symm
theorem XF(x:bY):(fV x).length<=1:=by unfold fV;split<;>simp
theorem Mq(x:bY):(oU x).length<=1:=by unfold oU;split<;>simp
theorem Ab(c:cB)(su:bY):(nW c su).length<=c.aDT.length+6:=by
 rw[ME,aL,aL];have h1:(cW c.aDT).length<=c.aDT.length:=by have:=wZ c.aDT c.aDT.length;rwa [List.take_of_length_le (lR _)] at this
 have h2:(qW c).length<=1:=by unfold qW;split<;>simp
 have h3:(uS c (cI (c.log.any (fun h=>decide (h.aEn=su))))).length=5:=rfl;omega
theorem Sf{s:Sto}{N:bY}{c:cB}(b:∀c∈s.aDO,c.aDT.length<=999000)(a:dU s N=some c):c.aDT.length<=999000:=by
 rcases FN s N with ⟨e,_⟩|⟨k,d,_,e⟩
 .rw[e] at a;cases a
 .rw[e] at a;injection a with a;subst a;exact b _ (List.getElem_mem d)
theorem XG(k:Int):(cK k).size<=cQ:=by
 by_cases h:k<1\/7<k
 .rw[Bo k h];decide
 .exact QCu
theorem Mr{t:Int}(h:bL t):cS (4,t,⟨#[]⟩):=⟨jB (x:=4) qo,h,show (⟨#[]⟩:bY).size<=cQ by decide⟩
theorem Sg{ok:nP}(s:Sto)(vc vr vn vo vt vu vk vb:Value)(o:Op)(ho:iU o)(b3:∀c∈s.aDO,c.aDT.length<=999000)(w:World)(h:fM w ok s vc vr vn vo vt vu vk vb):Calls prog 35 #[.agg (aX s vc vr vn vo vt vu vk vb),eZ o] w (XD (qM s o) w):=by
 obtain⟨ca,cc,ra,rc,na,nc,oa,oc,ta,tc,ua,uc,ka,kc,ba,bc,rfl,_,rfl,_,rfl,_,rfl,_,rfl,_,rfl,_,rfl,_,rfl,_⟩:=h.sl;have hs:fM w ok s (.slice ca s.aDO.length cc) (.slice ra s.aDQ.length rc) (.slice na s.aDV.length nc) (.slice oa s.aD1.length oc) (.slice ta s.aDP.aDY.length tc) (.slice ua s.aDP.aDR.length uc) (.slice ka s.aDP.aD2.length kc) (.slice ba s.aDP.aD4.length bc):=h;have aj:=aA (aAw s o);obtain⟨g1,g2,g3,g4,g5,g6,g7,g8,g9⟩:=ho;obtain⟨k,su,cd,f,m,⟨v1,v2,v3⟩,rv,tx,rs,gl⟩:=o;dsimp only at g1 g2 g3 g4 g5 aj;have c7:s.aD1.length<=1000000:=by obtain⟨_,_,_,h4⟩:=h.aD1.slice;exact h4
 unfold eZ bX;dsimp only;obtain⟨W0,aq⟩:=xE ((w.alloc (.cells (fU s ca cc ra rc na nc oa oc ta tc ua uc ka kc ba bc) 62)).alloc (.cells #[.int .i64 k,.string su,.string cd,.string f,.string m,.int .i64 v1,.int .i64 v2,.string v3,.int .i64 rv,.string tx,.string rs,.bool gl] 32));have HB0:Hid (Below w.heap.size w W0):=aA (by rw[aq];exact aC (aB _ _) (aB _ _));have A:Hid (W0.heap[w.heap.size]? =some (.cells (fU s ca cc ra rc na nc oa oc ta tc ua uc ka kc ba bc) 62 (0,0))):=aA (by rw[aq];exact aE (aK _ _ _ rfl) (aB _ _));have B:Hid (W0.heap[w.heap.size+1]? =some (.cells #[.int .i64 k,.string su,.string cd,.string f,.string m,.int .i64 v1,.int .i64 v2,.string v3,.int .i64 rv,.string tx,.string rs,.bool gl] 32 (0,0))):=aA (by rw[aq];exact aK _ _ _ qs);obtain⟨cn,HS,cb⟩:=aZ aq hs b3;have b8:=aA (fun w2 (hb:Below w.heap.size w w2)=>DR s _ _ _ _ _ _ _ _ cd w2 (hs.on hb));have bd:Hid (∀w',Below W0.heap.size W0 w'->w'.cell? ⟨w.heap.size,0,none⟩=some (.int .i64 s.aDX)/\w'.cell? ⟨w.heap.size,1,none⟩=some (.slice ca s.aDO.length cc)/\w'.cell? ⟨w.heap.size,2,none⟩=some (.slice ra s.aDQ.length rc)/\w'.cell? ⟨w.heap.size,3,none⟩=some (.slice na s.aDV.length nc)/\w'.cell? ⟨w.heap.size,4,none⟩=some (.slice oa s.aD1.length oc)/\w'.cell? ⟨w.heap.size,5,none⟩=some (.string s.aDP.id)/\w'.cell? ⟨w.heap.size,6,none⟩=some (.bool s.aDP.set)/\w'.cell? ⟨w.heap.size,7,none⟩=some (.int .i64 s.aDP.alg)/\w'.cell? ⟨w.heap.size,8,none⟩=some (.slice ta s.aDP.aDY.length tc)/\w'.cell? ⟨w.heap.size,9,none⟩=some (.slice ua s.aDP.aDR.length uc)/\w'.cell? ⟨w.heap.size,10,none⟩=some (.slice ka s.aDP.aD2.length kc)/\w'.cell? ⟨w.heap.size,11,none⟩=some (.slice ba s.aDP.aD4.length bc)/\w'.cell? ⟨w.heap.size,12,none⟩=some (.int .i64 s.aD0)):=aA (fun w' hb=>(bW (aE A.o hb)).1)
 have an:Hid (∀w',Below W0.heap.size W0 w'->w'.cell? ⟨w.heap.size+1,0,none⟩=some (.int .i64 k)/\w'.cell? ⟨w.heap.size+1,1,none⟩=some (.string su)/\w'.cell? ⟨w.heap.size+1,2,none⟩=some (.string cd)/\w'.cell? ⟨w.heap.size+1,3,none⟩=some (.string f)/\w'.cell? ⟨w.heap.size+1,4,none⟩=some (.string m)/\w'.cell? ⟨w.heap.size+1,5,none⟩=some (.int .i64 v1)/\w'.cell? ⟨w.heap.size+1,6,none⟩=some (.int .i64 v2)/\w'.cell? ⟨w.heap.size+1,7,none⟩=some (.string v3)/\w'.cell? ⟨w.heap.size+1,8,none⟩=some (.int .i64 rv)/\w'.cell? ⟨w.heap.size+1,9,none⟩=some (.string tx)/\w'.cell? ⟨w.heap.size+1,10,none⟩=some (.string rs)/\w'.cell? ⟨w.heap.size+1,11,none⟩=some (.bool gl)):=aA (fun w' hb=>(bK (aE B.o hb)).1);have ah:Hid (∀w',Below W0.heap.size W0 w'->w'.cell? ⟨w.heap.size+1,0,none⟩=some (.int .i64 k)/\w'.cell? ⟨w.heap.size+1,1,none⟩=some (.string su)):=aA (fun w' hb=>by obtain⟨h0,h1,_⟩:=(bK (aE B.o hb)).1;exact⟨h0,h1⟩);have az:=aA (fun w=>AP k w);have bq:=aA (XG k);obtain⟨act,b2⟩:∃act,cK k=act:=⟨_,rfl⟩;rw[b2] at az bq aj;obtain⟨G2,G3,G4,G5,GT⟩:=gJ g2 g3 g4 g5 h.aDX;unfold aP at az;unfold aX;have bu:=aA (Below.refl W0.heap.size W0);obtain⟨m0,m1,m2,m3,m4,m5,m6,m7,m8,m9,m10,m11,m12⟩:=bd.o _ bu.o;have zm:=aD A.o;clear h hs aq b2 g1 g2 g3 g4 g5 g6 g7 g8 g9 b3;go_enter func35,ntmps35;go_upto_region 1 with (fail)
 rw[<-cn.o];go_wp2;clear m0 m1 m2 m3 m4 m5 m6 m7 m8 m9 m10 m11 m12 zm;go_loopw [5,7,14] (fun v _ i wr=>∃(k2 n2:Nat) (a':oD) (c':Nat),k2<=s.aD1.length/\i=.int .i64 k2/\v=.slice a' n2 c'/\n2<=16/\Hid (n2=(gZ (s.aD1.take k2) su).length)/\Hid (aM VR 3 30 wr W0.heap.size (fun b=>W0.heap.size<=b) (.slice a' n2 c') (gZ (s.aD1.take k2) su))/\Hid (Below W0.heap.size W0 wr)) (fun _ _ i _=>s.aD1.length - (intOf i).toNat)
 case atStart=>exact⟨0,0,none,0,Nat.zero_le _,rfl,rfl,Nat.zero_le _,aA (by simp[gZ]),aA (by rw[show gZ (s.aD1.take 0) su=[] by simp[gZ]];exact aM.nil),bu⟩
 case round=>
  obtain⟨k2,n2,a',c',hk,rfl,rfl,hn16,HN2,d,P⟩:=hrel;obtain⟨T,U,X,Y,Z,p5,p6,p7,p8,p9,V,W⟩:=an.o _ P.o;have zp:=aD (aE B.o P.o);by_cases bo:k2<s.aD1.length
  .have cq:(k2:Int)<(s.aD1.length:Int):=qo;obtain⟨b,off,r,rfl,_,cz,⟨rfl,b4⟩,hc⟩:=aH.at dB (aH.on dB HS.o.aD1 (aC HB0.o P.o)) bo qe;have x0:=hc 0 _ rfl;have x1:=hc 1 _ rfl;rw[Nat.add_zero] at x0;have HST:=aA (Aa (su:=su) bo);have ck:=aA b4.2;clear hc b4;generalize s.aD1[k2]=r at *;obtain⟨r1,r2⟩:=r;dsimp only at x0 x1;have av:=aA (aB wr (.cells #[.string r1,.string r2] 157));by_cases hin:r1=su/\n2<16
   .have HE:Hid (gZ (s.aD1.take (k2+1)) su=gZ (s.aD1.take k2) su++[(5,0,r2)]):=aA (by have:=HST.o;rwa [iP ⟨hin.1,by rw[<-HN2.o];exact hin.2⟩] at this);have ds:(r1.toList==su.toList)=true:=by rw[jL];exact dX hin.1
    have d16:(n2:Int)<16:=qA hin.2;have c6:n2<=15:=qA hin.2;have J:=aA d.o.lt;clear HST hin;go_wp2_with fail;refine(vZ _ _).mono ?_;rintro e j ⟨rfl,a⟩;obtain⟨D,F,N,z⟩:=dH (aC (aC P.o av.o) a) (d.o.on bG (aC av.o a)) (aK j (.cells #[.int .i64 5,.int .i64 0,.string r2] 30) j.heap.size qs) (aB j (.cells #[.int .i64 5,.int .i64 0,.string r2] 30));have E:=aA (F.o.on bG z.o);have l:=qB D z.o;have cj:Hid ((gZ (s.aD1.take k2) su).length<=1000000):=aA (by rw[<-HN2.o];omega);clear a d F D x0 x1 T U X Y Z p5 p6 p7 p8 p9 V W zp;go_wp2_with (at_builtin;refine cC (base:=W0.heap.size) Zu bG rfl (.tmp 28) (.tmp 32) rfl _ (gZ (s.aD1.take k2) su) rfl E.o j.heap.size 1 _ _ _ (5,0,r2) rfl N.o ⟨rfl,pZ ck.o⟩ cj.o qo l.o.size ?_;intro l' M A' c2 w9 G H S;have HG9:=aA G;have HB9:=aA (E.o.below l.o H (lR _) l.o.size);have Q:=aA M.o;clear G H S M)
    have HE9:Hid (l'=gZ (s.aD1.take (k2+1)) su):=aA (by rw[Q.o,HE.o]);go_roundw
    case rel=>exact⟨k2+1,l'.length,A',c2,qo,by go_num,rfl,by rw[HE9.o];exact Gk _ _,aA (by rw[HE9.o]),aA (by have h:=HG9.o;have e:=HE9.o;subst e;exact h),HB9⟩
    case measure=>simp[intOf];omega
   .have HE:Hid (gZ (s.aD1.take (k2+1)) su=gZ (s.aD1.take k2) su):=aA (by have:=HST.o;rwa [iN (fun h=>hin ⟨h.1,by rw[HN2.o];exact h.2⟩)] at this);have HB3:=qB P av.o;have HG3:=aA (d.o.on bG av.o);by_cases hrs:r1=su
    .have ds:(r1.toList==su.toList)=true:=by rw[jL];exact dX hrs
     have d16:¬(n2:Int)<16:=by have:¬n2<16:=fun h=>hin ⟨hrs,h⟩;omega
     exact QBP
    .have ds:(r1.toList==su.toList)=false:=by rw[jL];exact dF hrs
     exact QBP
  .have cq:¬(k2:Int)<(s.aD1.length:Int):=qo;obtain rfl:k2=s.aD1.length:=qo;rw[List.take_of_length_le (lR _)] at HN2 d;obtain⟨wq,rfl⟩:∃wq:World,wq=wr:=⟨_,rfl⟩;obtain⟨n,b1⟩:∃n,gZ s.aD1 su=n:=⟨_,rfl⟩;rw[b1] at HN2 d aj;clear b1 bo hk T U X Y Z p5 p6 p7 p8 p9 V W zp;go_upto_region 8 with (fail)
   go_cut [8] from 35 to 48 (fun v w'=>∃(a1:oD) (n1 c1:Nat),v=.slice a1 n1 c1/\Hid (n1=3)/\Hid (aM jW 3 160 w' W0.heap.size (fun b=>W0.heap.size<=b) (.slice a1 n1 c1) (iY su n act))/\Hid (Below W0.heap.size W0 w'))
   case first=>
    have cl:Hid (aH VR wq (fun b=>W0.heap.size<=b/\b<wq.heap.size) (.slice a' n2 c') n):=aA (by
     have e:=HN2.o;subst e;exact(eO (enc:=JF) (good:=cS) (ok':=fun b=>W0.heap.size<=b/\b<wq.heap.size) d.o).sl qo _ (fun b hb _=>hb) (fun b hb hl=>⟨hb,hl⟩) bG)
    have g:=aA P.o.drew;have p:=aA (Below.refl wq.heap.size wq).drew;have c8:=ah.o _ P.o;clear d;have d:Hid (eP W0.heap.size wq.drew []):=aA (eP.nil P.o.size);go_region_held3 (fun w'=>w'.cell? ⟨w.heap.size+1,0,none⟩=some (.int .i64 k)/\w'.cell? ⟨w.heap.size+1,1,none⟩=some (.string su))
     (first|assumption |exact ah.o _ g.o|exact ah.o _ (aC g.o (aB _ _)))
     ((first
       |(go_at_call 81;refine(vZ _ _).mono ?_;rintro e j ⟨rfl,af⟩;(first|replace d:=aA (eP.on d.o af)|replace d:=aA (eP.push d.o af));(first|replace p:=aA (aC p.o af)|replace p:=aA (aC (aC p.o (aB _ _)) af));(first|replace g:=aA (aC g.o af)|replace g:=aA (aC (aC g.o (aB _ _)) af));have hS:=ah.o _ g.o;clear af)
       |(go_at_call 82;refine(nN _ _ _ _ _ _).mono ?_;rintro e q ⟨rfl,ae⟩;(first|replace d:=aA (eP.on d.o ae)|replace d:=aA (eP.push d.o ae));(first|replace p:=aA (aC p.o ae)|replace p:=aA (aC (aC p.o (aB _ _)) ae));(first|replace g:=aA (aC g.o ae)|replace g:=aA (aC (aC g.o (aB _ _)) ae));have hS:=ah.o _ g.o;clear ae)
       |(go_at_call 53;refine(az.o _).mono ?_;rintro e wt ⟨rfl,ag⟩;(first|replace d:=aA (eP.on d.o ag)|replace d:=aA (eP.push d.o ag));(first|replace p:=aA (aC p.o ag)|replace p:=aA (aC (aC p.o (aB _ _)) ag));(first|replace g:=aA (aC g.o ag)|replace g:=aA (aC (aC g.o (aB _ _)) ag));have hS:=ah.o _ g.o;clear ag)))
    all_goals
     clear hS;go_wp2;go_meet;exact⟨_,3,3,rfl,aA rfl,aA (aM.many cA qe rfl qe (aK _ _ _ rfl) g.o.size (lC (nH d.o qs (jB (x:=1) qo) (show (⟨#[105,100]⟩:bY).size<=cQ by decide) (pZ G2.o)) (lC ⟨_,rfl,jB (x:=1) qo,show (⟨#[114,111,108,101]⟩:bY).size<=cQ by decide,aH.more bG (aH.on bG cl.o (aC p.o (aB _ _))) (fun x t=>⟨t.1,by have h1:=(aC p.o (aB q (.cells #[] 0))).size;have h2:=p.o.size;have h3:=t.2;rw[World.size_alloc];omega,by have h2:=p.o.size;have h3:=t.2;show x≠_;omega⟩)⟩ (lC (nH d.o qs (jB (x:=2) qo) (show (⟨#[110,97,109,101]⟩:bY).size<=cQ by decide) (pZ bq.o)) rfl))) qe),aA (aC g.o (aB _ _))⟩
   case rest=>
    obtain⟨a1,n1,c1,hv,b0,bg,ak⟩:=hcut;subst hv;clear HN2 d P;obtain⟨T,U,X,Y,Z,p5,p6,p7,p8,p9,V,W⟩:=an.o _ ak.o;have zp:=aD (aE B.o ak.o);go_upto_if 51 with (fail)
    go_cut [8] from 51 to 59 (fun v w'=>∃(a2:oD) (n2 c2:Nat),v=.slice a2 n2 c2/\Hid (n2=(iY su n act++fV f).length)/\Hid (aM jW 3 160 w' W0.heap.size (fun b=>W0.heap.size<=b) (.slice a2 n2 c2) (iY su n act++fV f))/\Hid (Below W0.heap.size W0 w'))
    case first=>
     have ao:=aA (MG f);generalize (!(ByteArray.toList f).isEmpty)=em at *
     cases em
     .have K:=XE ao.o;have HE:Hid (fV f=[]):=aA (by unfold fV;rw[iN (fun h=>h K)]);clear K;go_wp2;go_meet;exact⟨a1,n1,c1,rfl,aA (by rw[HE.o,List.append_nil,b0.o];rfl),aA (by rw[HE.o,List.append_nil];exact bg.o),ak⟩
     .have K:=RF ao.o;have HE:Hid (fV f=[(2,⟨#[102,105,101,108,100]⟩,[(5,0,f)])]):=aA (by unfold fV;rw[iP K]);clear K;go_wp2_with fail;refine(vZ _ _).mono ?_;rintro e j ⟨rfl,a⟩;have D:=qB ak a;have F:=aA (bg.o.on cA a);clear a;obtain⟨J,O,I⟩:=aZ F.o.lt D.o.size (aB j (.cells #[.int .i64 5,.int .i64 0,.string f] 30));go_wp2_with fail;refine(nN _ _ _ _ _ _).mono ?_;rintro e q ⟨rfl,a⟩;obtain⟨HB3,aa,HG3⟩:=aZ (aC (aC D.o I.o) a) (eP.push (lo:=j.heap.size) (L:=[]) (eP.nil (lR _)) a) (F.o.on cA (aC I.o a));obtain⟨ab,N,z⟩:=aZ (nH (o:= .cells #[.int .i64 2,.string (⟨#[102,105,101,108,100]⟩:bY),.slice (some ⟨j.heap.size,0,none⟩) 1 1] 160) (b:=j.heap.size) aa.o qs (jB (x:=2) qo) (show (⟨#[102,105,101,108,100]⟩:bY).size<=cQ by decide) (pZ G4.o)) (aK q (.cells #[.int .i64 2,.string (⟨#[102,105,101,108,100]⟩:bY),.slice (some ⟨j.heap.size,0,none⟩) 1 1] 160) q.heap.size qs) (aB q (.cells #[.int .i64 2,.string (⟨#[102,105,101,108,100]⟩:bY),.slice (some ⟨j.heap.size,0,none⟩) 1 1] 160));have E:=aA (HG3.o.on cA z.o);have l:=qB HB3 z.o;clear a I F D HG3 HB3;go_wp2_with (at_builtin;refine cC (base:=W0.heap.size) JO cA rfl (.tmp 52) (.tmp 58) rfl _ (iY su n act) (rfl) E.o q.heap.size 1 _ _ _ (2,(⟨#[102,105,101,108,100]⟩:bY),[(5,0,f)]) rfl N.o (by have h:=ab.o;obtain⟨vb,R,h1,h2,h3⟩:=h;exact⟨vb,R,h1,h2,aH.more bG h3 fun x t=>⟨lT O.o t.1,t.2.1,fun e=>absurd (J.o x e.symm).2 (Nat.not_lt.2 t.1)⟩⟩) (show (3:Nat)<=1000000 by omega) qo l.o.size ?_;intro l' M A' c2 w9 G H S;have HG9:=aA G;have HB9:=aA (E.o.below l.o H (lR _) l.o.size);have Q:=aA M.o;clear G H S M ab N z aa O J E l)
      have HE9:Hid (l'=iY su n act++fV f):=aA (by rw[Q.o,HE.o]);exact QCC
    case rest=>
     obtain⟨a2,n2,c2,hv,HN2,bh,al⟩:=hcut;subst hv;have bx:Hid ((iY su n act++fV f).length<=4):=aA (by rw[aL];have h:=XF f;have h3:(iY su n act).length=3:=rfl;omega);clear b0 bg ak T U X Y Z p5 p6 p7 p8 p9 V W zp;obtain⟨T,U,X,Y,Z,p5,p6,p7,p8,p9,V,W⟩:=an.o _ al.o;have zp:=aD (aE B.o al.o);go_upto_if 62 with (fail)
     go_cut [8] from 62 to 70 (fun v w'=>∃(a3:oD) (n3 c3:Nat),v=.slice a3 n3 c3/\Hid (n3=(iY su n act++fV f++oU m).length)/\Hid (aM jW 3 160 w' W0.heap.size (fun b=>W0.heap.size<=b) (.slice a3 n3 c3) (iY su n act++fV f++oU m))/\Hid (Below W0.heap.size W0 w'))
     case first=>
      have ao:=aA (MG m);generalize (!(ByteArray.toList m).isEmpty)=em at *
      cases em
      .have K:=XE ao.o;have HE:Hid (oU m=[]):=aA (by unfold oU;rw[iN (fun h=>h K)]);clear K;go_wp2;go_meet;exact⟨a2,n2,c2,rfl,aA (by rw[HE.o,List.append_nil,HN2.o]),aA (by rw[HE.o,List.append_nil];exact bh.o),al⟩
      .have K:=RF ao.o;have HE:Hid (oU m=[(2,⟨#[116,111]⟩,[(5,0,m)])]):=aA (by unfold oU;rw[iP K]);clear K;go_wp2_with fail;refine(vZ _ _).mono ?_;rintro e j ⟨rfl,a⟩;have D:=qB al a;have F:=aA (bh.o.on cA a);clear a;obtain⟨J,O,I⟩:=aZ F.o.lt D.o.size (aB j (.cells #[.int .i64 5,.int .i64 0,.string m] 30));go_wp2_with fail;refine(nN _ _ _ _ _ _).mono ?_;rintro e q ⟨rfl,a⟩;obtain⟨HB3,aa,HG3⟩:=aZ (aC (aC D.o I.o) a) (eP.push (lo:=j.heap.size) (L:=[]) (eP.nil (lR _)) a) (F.o.on cA (aC I.o a));obtain⟨ab,N,z⟩:=aZ (nH (o:= .cells #[.int .i64 2,.string (⟨#[116,111]⟩:bY),.slice (some ⟨j.heap.size,0,none⟩) 1 1] 160) (b:=j.heap.size) aa.o qs (jB (x:=2) qo) (show (⟨#[116,111]⟩:bY).size<=cQ by decide) (pZ G5.o)) (aK q (.cells #[.int .i64 2,.string (⟨#[116,111]⟩:bY),.slice (some ⟨j.heap.size,0,none⟩) 1 1] 160) q.heap.size qs) (aB q (.cells #[.int .i64 2,.string (⟨#[116,111]⟩:bY),.slice (some ⟨j.heap.size,0,none⟩) 1 1] 160));have E:=aA (HG3.o.on cA z.o);have l:=qB HB3 z.o;clear a I F D HG3 HB3;go_wp2_with (at_builtin;refine cC (base:=W0.heap.size) JO cA rfl (.tmp 63) (.tmp 69) rfl _ (iY su n act++fV f) (rfl) E.o q.heap.size 1 _ _ _ (2,(⟨#[116,111]⟩:bY),[(5,0,m)]) rfl N.o (by have h:=ab.o;obtain⟨vb,R,h1,h2,h3⟩:=h;exact⟨vb,R,h1,h2,aH.more bG h3 fun x t=>⟨lT O.o t.1,t.2.1,fun e=>absurd (J.o x e.symm).2 (Nat.not_lt.2 t.1)⟩⟩) (lT bx.o qo) qo l.o.size ?_;intro l' M A' c2 w9 G H S;have HG9:=aA G;have HB9:=aA (E.o.below l.o H (lR _) l.o.size);have Q:=aA M.o;clear G H S M ab N z aa O J E l)
       have HE9:Hid (l'=iY su n act++fV f++oU m):=aA (by rw[Q.o,HE.o]);exact QCC
     case rest=>
      obtain⟨a3,n3,c3,hv,cx,cg,a8⟩:=hcut;subst hv;have bz:Hid ((iY su n act++fV f++oU m).length<=5):=aA (by rw[aL];have h:=Mq m;have h3:=bx.o;omega);clear HN2 bh al T U X Y Z p5 p6 p7 p8 p9 V W zp;obtain⟨m0,m1,m2,m3,m4,m5,m6,m7,m8,m9,m10,m11,m12⟩:=bd.o _ a8.o;have zm:=aD (aE A.o a8.o);go_upto_region 13 with (fail)
      have D:=a8;have F:=cg;obtain⟨J,O,I⟩:=aZ F.o.lt D.o.size (aB wc (.cells #[.int .i64 4,.int .i64 s.aDX,.string ⟨#[]⟩] 30));go_wp2_with fail;refine(nN _ _ _ _ _ _).mono ?_;rintro e q ⟨rfl,a⟩;obtain⟨HB3,aa,HG3⟩:=aZ (aC (aC D.o I.o) a) (eP.push (lo:=wc.heap.size) (L:=[]) (eP.nil (lR _)) a) (F.o.on cA (aC I.o a));obtain⟨ab,N,z⟩:=aZ (nH (o:= .cells #[.int .i64 4,.string (⟨#[110,111,119]⟩:bY),.slice (some ⟨wc.heap.size,0,none⟩) 1 1] 160) (b:=wc.heap.size) aa.o qs (jB (x:=4) qo) (show (⟨#[110,111,119]⟩:bY).size<=cQ by decide) (Mr GT.o)) (aK q (.cells #[.int .i64 4,.string (⟨#[110,111,119]⟩:bY),.slice (some ⟨wc.heap.size,0,none⟩) 1 1] 160) q.heap.size qs) (aB q (.cells #[.int .i64 4,.string (⟨#[110,111,119]⟩:bY),.slice (some ⟨wc.heap.size,0,none⟩) 1 1] 160));have E:=aA (HG3.o.on cA z.o);have l:=qB HB3 z.o;clear a I F D HG3 HB3;go_upto_region 14 with (at_builtin;refine cC (base:=W0.heap.size) JO cA rfl (.tmp 71) (.tmp 77) rfl _ (iY su n act++fV f++oU m) (rfl) E.o q.heap.size 1 _ _ _ (4,(⟨#[110,111,119]⟩:bY),[(4,s.aDX,⟨#[]⟩)]) rfl N.o (by have h:=ab.o;obtain⟨vb,R,h1,h2,h3⟩:=h;exact⟨vb,R,h1,h2,aH.more bG h3 fun x t=>⟨lT O.o t.1,t.2.1,fun e=>absurd (J.o x e.symm).2 (Nat.not_lt.2 t.1)⟩⟩) (lT bz.o qo) qo l.o.size ?_;intro l' M A' c2 w9 G H S;have HG9:=aA G;have HB9:=aA (E.o.below l.o H (lR _) l.o.size);have Q:=aA M.o;obtain⟨q0,q1,q2,q3,q4,q5,q6,q7,q8,q9,ct,cu,cv⟩:=bd.o _ HB9.o;obtain⟨T,U,X,Y,Z,p5,p6,p7,p8,p9,V,W⟩:=an.o _ HB9.o;have cw:=aD (aE A.o HB9.o);have zp:=aD (aE B.o HB9.o);clear G H S M ab N z aa O J E l)
      obtain⟨P4,aw⟩:=xE (iY su n act++fV f++oU m++[(4,⟨#[110,111,119]⟩,[(4,s.aDX,⟨#[]⟩)])]);have cy:=aA aw;have bj:Hid (l'=P4):=aA (by rw[Q.o,aw]);have HL4:Hid (l'.length<=6):=aA (by rw[Q.o,aL];have h3:=bz.o;simp only[List.length_singleton];omega);have ar:=aA (aj.o);rw[<-aw] at ar;have bs:=aA (fun c (h':dU s cd=some c)=>EA HS.o h');have br:=aA (fun c (h':dU s cd=some c)=>Sf cb.o h');have bb:=aA (b8.o w9 (aC HB0.o HB9.o));obtain⟨CO,bl⟩:∃CO,dU s cd=CO:=⟨_,rfl⟩;have be:Hid (JZ s ⟨k,su,cd,f,m,(v1,v2,v3),rv,tx,rs,gl⟩=MF CO k su):=aA (by rw[<-bl];rfl);rw[bl] at bb bs br;unfold aX AM at bb;clear aw bl Q aj m0 m1 m2 m3 m4 m5 m6 m7 m8 m9 m10 m11 m12 zm;go_wp2_with fail;refine bb.o.mono ?_;rintro e ai cr
      rcases cr with ⟨R,rfl,a⟩|⟨c,vf,vl,R,rfl,bm,bn,a⟩
      .subst R;have ad:=aA (aC (aC HB9.o a) (aB ai (.cells #[.string ⟨#[]⟩,.string ⟨#[]⟩,.string ⟨#[]⟩,.slice none 0 0,.slice none 0 0] 113)));have HG10:=aA ((HG9.o.on cA a).on cA (aB ai (.cells #[.string ⟨#[]⟩,.string ⟨#[]⟩,.string ⟨#[]⟩,.slice none 0 0,.slice none 0 0] 113)));clear a;go_wp2;go_returns;refine⟨_,rfl,?_,aC HB0.o ad.o⟩;rw[ar.o,be.o,show MF none k su=[] from rfl,List.append_nil,<-bj.o];exact QCz
      .subst R;obtain⟨fa,fc,rfl⟩:=bm.slice;obtain⟨la,lc,rfl⟩:=bn.slice;obtain⟨W2,ay⟩:=xE (ai.alloc (.cells (pH c fa fc la lc) 113));have ax:Below ai.heap.size ai W2:=by rw[ay];exact aB _ _
       have C:Hid (W2.heap[ai.heap.size]? =some (.cells (pH c fa fc la lc) 113 (0,0))):=aA (by rw[ay];exact aK _ _ _ rfl);obtain⟨cp,ad,HG10,b9,bf⟩:=gJ ay (aC (aC HB9.o a) ax) ((HG9.o.on cA a).on cA ax) ((JV ⟨bm,bn,a⟩ (bs.o c rfl)).aDW (aJ ax)) (br.o c rfl);have au:=aA (ZZ c _ _ su bf.o W2 b9.o);have a6:=aA (Ab c su);unfold XD at au;obtain⟨AL,bk⟩:∃AL,nW c su=AL:=⟨_,rfl⟩;rw[bk] at au a6;have b6:=aA bk;clear ay bm bn a ax bk q0 q1 q2 q3 q4 q5 q6 q7 q8 q9 ct cu cv cw T U X Y Z p5 p6 p7 p8 p9 V W zp;obtain⟨T,U,X,Y,Z,p5,p6,p7,p8,p9,V,W⟩:=an.o _ ad.o;have zp:=aD (aE B.o ad.o);obtain⟨⟨C0,C1,C2,C3,C4⟩,_⟩:=dM C.o;have zC:=aD C.o;go_upto_region 15 with (fail)
       rw[<-cp.o];by_cases k6:k=6
       .subst k6;go_wp2;go_returns;refine⟨_,rfl,?_,aC HB0.o ad.o⟩;rw[ar.o,be.o,show MF (some c) 6 su=[] from rfl,List.append_nil,<-bj.o];exact QCz
       .have d6:(k==6)=false:=bN.2 k6;have ch:=aA k6;go_wp2_with fail;refine au.o.mono ?_;rintro e da ⟨v11,rfl,bp,a⟩;obtain⟨xa,xc,rfl,_⟩:=bp.slice;obtain⟨J,a7,bt,cm,O⟩:=gJ HG10.o.lt (aC ad.o a) (HG10.o.on cA a) (aH.inb cA bp) ad.o.size;clear a bp au HG10;go_wp2_with (at_builtin;refine BI (base:=W0.heap.size) JO cA rfl (.tmp 92) (.tmp 96) rfl _ l' rfl bt.o _ AL rfl (aH.more cA cm.o (fun y hy=>⟨lT O.o hy.1,hy.2,fun e=>absurd (J.o y e.symm).2 (Nat.not_lt.2 hy.1)⟩)) (by have h1:=HL4.o;have h2:=a6.o;have h3:=bf.o;omega) qo a7.o.size ?_;intro l2 b5 A9 c9 db G H S;have cf:=aA G;have b7:=aA (bt.o.below a7.o H (lR _) a7.o.size);have bw:=aA b5.o;clear G H S b5)
        go_returns;refine⟨_,rfl,?_,aC HB0.o b7.o⟩;rw[ar.o,be.o,show MF (some c) k su=nW c su by unfold MF;dsimp only;rw[iP ch.o],b6.o,<-bj.o,<-bw.o];exact cf.o.sl (by rw[bw.o,aL];have h1:=HL4.o;have h2:=a6.o;have h3:=bf.o;omega) _ (fun b hb _=>lT HB0.o.size hb) (fun b hb _=>lT HB0.o.size hb) cA
end Go.Proofs.YthcgdgkpgdjahaaGreatDoor
