/- Part 34. -/
import Derived.Test.YtejafaaihodehaaGreatDoorZ33
set_option linter.all false
set_option maxRecDepth 100000
set_option maxHeartbeats 8000000
namespace Go.Proofs.YtejafaaihodehaaGreatDoor
open Go Go.RowKit Tryz
theorem Ln(v:cK)(rv:Value)(cR:List gw)(M:Nat)(base:Bt)(A B:Option Addr)(n m cA cB:Nat)(c:Nat)(w:World)(hm:MK v rv cR M w c):
 Calls prog 141 #[.pointer (some ⟨M,0,none⟩),.agg #[.string (bs base),.slice A n cA,.int .i64 5],.slice B m cB] w (jW v rv cR M w (cF [] 5,c)):=by
 have HS:=bD (J9.start w hm.iz.lt base (.slice A n cA) 5);have cg:Below w.heap.size w ((w.alloc (.cells #[.string (bs base),.slice A n cA,.int .i64 5] 70)).alloc (.cells (bI fy) 31)):=(cU _ _).alloc (by rw[size_alloc];omega) _;have pD:=bD (hm.below cg);clear hm cg;go_enter func141,ntmps141;go_wp2_with fail;refine(iA [] 5 _).mono ?_;rintro e w2 ⟨rfl,cu⟩;have eH:=bD (HS.o.below cu);have Cf:=bD (pD.o.below cu);clear cu HS pD;generalize w.heap.size=P at*;obtain⟨r0,r1,r2,r3⟩:=lG eH.o.hR;simp[bI]at r0 r1 r2 r3;obtain⟨f0,f1,f2,f3⟩:=qm eH.o.hR;simp only[fo.val,cF];go_wp2_with fail;obtain⟨q1,q2⟩:=eH.o.fin Cf.o (z:=(cF [] 5,c)) rfl (by simp[cF]);change bodyPost _ _ _ _ _ (dO w2 (P+1) (cF [] 5));exact ag (uF rfl q1) rfl q2
theorem T5(D:lq)(d:Nat)(base:Bt)(el:List Elem)(s:Bt)(c:Nat):gJ D d base el s c=
 match ei (D.sub s) el with
 |some bE=>
  if 20<=c then(cF [] 4,c)
  else if d=0 then(cF [] 5,c+1)
  else(eF (cT D (gJ D (d-1) base el) false 0 [] bE (c+1)).1,(cT D (gJ D (d-1) base el) false 0 [] bE (c+1)).2)
 |none=>
  if(dA base (D.sub s)).2≠0 then(cF [] (dA base (D.sub s)).2,c)
  else if 20<=c then(cF [] 4,c)
  else match mG D.cN (dA base (D.sub s)).1 with
   |none=>(yC (dA base (D.sub s)).1,c+1)
   |some r=>
    if fj r≠0 then(cF [] (fj r),c+1)
    else if r.eU=false then(dL r.body,c+1)
    else if d=0 then(cF [] 5,c+1)
    else(eF (iC D (d-1) (dA base (D.sub s)).1 r.body (c+1)).1,(iC D (d-1) (dA base (D.sub s)).1 r.body (c+1)).2):=by
 cases d with
 |zero=>
  show iP D true _ base el s c=_
  unfold iP;cases ei (D.sub s) el with
  |some bE=>rfl
  |none=>
   simp only;split
   ·rfl
   ·split
    ·rfl
    ·cases mG D.cN (dA base (D.sub s)).1 with
     |none=>rfl
     |some r=>rfl
 |succ d=>
  show iP D false _ base el s c=_
  unfold iP;cases ei (D.sub s) el with
  |some bE=>rfl
  |none=>
   simp only;split
   ·rfl
   ·split
    ·rfl
    ·cases mG D.cN (dA base (D.sub s)).1 with
     |none=>rfl
     |some r=>
      simp only[iC,Nat.add_sub_cancel];split
      ·rfl
      ·split
       ·rfl
       ·simp only[Bool.false_eq_true,if_false,Nat.succ_ne_zero];split
        ·simp[eF,cF]
        ·rfl
theorem MK.T6{v:cK}{rv:Value}{cR:List gw}{M c:Nat}{W:World}(h:MK v rv cR M W c)(hc:¬20<=c):MK v rv cR M (W.setCell ⟨M,7,none⟩ (.int .i64 ((c:Int)+1))) (c+1):=h.count (by omega)
theorem T7{l:List gw}{u:Bt}{r:gw}(h:mG l u=some r):r∈l/\r.jK=u:=by
 unfold mG at h;exact⟨List.mem_of_find?_eq_some h,by have:=List.find?_some h;simpa using this⟩
theorem sM(v:cK)(D:lq)(rv:Value)(M d:Nat)(hd:d<=4)(ib:d≠0->∀l,Dt v D rv M (d-1) l)(wO:Ds v D)(base:Bt)(el:List Elem)(pv:Value)(s:Bt)(c:Nat)(w:World)
 (Du:ju base) (tJ:tL v D el) (hs:oX v D s) (hm:MK v rv D.cN M w c) (qX:GR w (fun k=>k≠M) (.row 7 (el.map Elem.gv)) [pv]):
 Calls prog 106 #[.pointer (some ⟨M,0,none⟩),.agg #[.string (bs base),pv,.int .i64 (4-(d:Int))],.string (bs s)] w (jW v rv D.cN M w (gJ D d base el s c)):=by
 obtain⟨Ap,cp,rfl,-⟩:=dW qX;have HZ:=bD (T5 D d base el s c);generalize gJ D d base el s c=Z at*;obtain⟨⟨mC,yO⟩,SU⟩:=hs;have Q9:=bD yO;have HPS:=bD SU;have HBP:=bD Du;generalize D.sub s=t at*;have Ra:=bD ib;have au7:=bD wO;have j4:=bD tJ;have ZM:=bD hm.hc;obtain⟨fU,Z9⟩:∃fU:Int,fU=4-(d:Int):=⟨_,rfl⟩;rw[<-Z9];have Xa:=bD Z9;have aD0:0<=fU:=by omega
 have aD1:fU<=4:=by omega
 have cg:Below w.heap.size w ((w.alloc (.cells #[.string (bs base),.slice Ap el.length cp,.int .i64 fU] 70)).alloc (.cells (bI fy) 31)):=(cU _ _).alloc (by rw[size_alloc];omega) _;have HS:=bD (J9.start w hm.iz.lt base (.slice Ap el.length cp) fU);have pD:=bD (hm.below cg);have E8:=bD (qX.below cg);obtain⟨c0,c1,c2,c3,c4,c5⟩:=nB pD.o.iz;simp[nT]at c0 c1 c2 c3 c4 c5;have aD2:(c:Int)<=20:=by have:=hm.hc;omega
 clear ib wO tJ Du SU yO hm qX Z9;go_enter func106,ntmps106;go_upto_region 1 with(fail)
 change Code.wp _ _ _ _ ((w.alloc (.cells #[.string (bs base),.slice Ap el.length cp,.int .i64 fU] 70)).alloc (.cells (bI fy) 31));generalize(w.alloc (.cells #[.string (bs base),.slice Ap el.length cp,.int .i64 fU] 70)).alloc (.cells (bI fy) 31)=w0 at*;generalize w.heap.size=P at*;go_wp2_with fail;refine(Q9.o w0 pD.o.pP).mono ?_;rintro e w1 ⟨rfl,dG⟩;have mM:=bD (HS.o.below dG);have Q8:=bD (pD.o.below dG);have E9:=bD (E8.o.below dG);clear dG HS pD E8 Q9 c0 c1 c2 c3 c4 c5;obtain⟨p0,p1,p2⟩:=nw mM.o.hP;simp at p0 p1 p2;go_wp2_with fail;refine(Ft t _ el _ _ w1 (dv _) E9.o).mono ?_;rintro e w2 ⟨hio,cu⟩;have uj:=bD (mM.o.below cu);have Cf:=bD (Q8.o.below cu);have j6:=bD (E9.o.below cu);clear cu mM Q8 E9 p0 p1 p2;rcases hio with⟨Px,rfl⟩|⟨bE,kv,Tq,rfl,hkg⟩
 ·have gu:Hy (Z=if(dA base t).2≠0 then(cF [] (dA base t).2,c)
   else if 20<=c then(cF [] 4,c)
   else match mG D.cN (dA base t).1 with
    |none=>(yC (dA base t).1,c+1)
    |some r=>
     if fj r≠0 then(cF [] (fj r),c+1)
     else if r.eU=false then(dL r.body,c+1)
     else if d=0 then(cF [] 5,c+1)
     else(eF (iC D (d-1) (dA base t).1 r.body (c+1)).1,(iC D (d-1) (dA base t).1 r.body (c+1)).2)):=by rw[Hy,HZ.o,Px]
  have HAC:=bD (fun W hg=>Fq base t HBP.o HPS.o W hg);generalize dA base t=AF at*;obtain⟨jK,bad⟩:=AF;simp only at gu HAC;have p0:=uj.o.hP.cell 0;simp at p0;clear Px HZ;go_wp2_with fail;refine(HAC.o w2 Cf.o.pP).mono ?_;rintro e w3 ⟨rfl,fm⟩;have FJ:=bD (uj.o.below fm);have CD:=bD (Cf.o.below fm);clear fm uj Cf j6 p0 HAC;have m7:=CD.o.iz.cell 7;simp[nT]at m7;by_cases lM:bad=0
  ·have bb:(bad==0)=true:=by rw[lM];rfl
   have bb2:(bad !=0)=false:=by rw[lM];rfl
   have ny:Hy (Z=if 20<=c then(cF [] 4,c)
    else match mG D.cN jK with
     |none=>(yC jK,c+1)
     |some r=>
      if fj r≠0 then(cF [] (fj r),c+1)
      else if r.eU=false then(dL r.body,c+1)
      else if d=0 then(cF [] 5,c+1)
      else(eF (iC D (d-1) jK r.body (c+1)).1,(iC D (d-1) jK r.body (c+1)).2)):=by rw[Hy,gu.o,aa (by simpa using lM)]
   clear lM gu;by_cases hc:20<=c
   ·have hci:(20:Int)<=(c:Int):=by omega
    have wA:Hy (Z=(cF [] 4,c)):=by rw[Hy,ny.o,ae hc]
    clear hc ny;go_wp2_with fail;refine(iA [] 4 w3).mono ?_;rintro e w9 ⟨rfl,fq⟩;have eH:=bD (FJ.o.below fq);have kG:=bD (CD.o.below fq);clear fq FJ CD;simp only[fo.val,cF];obtain⟨r0,r1,r2,r3⟩:=lG eH.o.hR;simp[bI]at r0 r1 r2 r3;obtain⟨f0,f1,f2,f3⟩:=qm eH.o.hR;go_wp2_with fail;obtain⟨q1,q2⟩:=eH.o.fin kG.o (z:=Z) wA.o (by simp[cF]);change bodyPost _ _ _ _ _ (dO w9 (P+1) (cF [] 4));exact ag (gz rfl q1) rfl q2
   ·have hci:¬(20:Int)<=(c:Int):=by omega
    have g7:=CD.o.iz.frozen 7;go_upto_region 11 with(fail)
    have pc:w3.grownBy (w3.setCell ⟨M,7,none⟩ (.int .i64 ((c:Int)+1))) (some M):=bF (bR _ _) (.inl rfl) _;have Ka:=bD (FJ.o.grown pc);have SV:=bD (CD.o.T6 hc);change Code.wp _ _ _ _ (w3.setCell ⟨M,7,none⟩ (.int .i64 ((c:Int)+1)));generalize w3.setCell ⟨M,7,none⟩ (.int .i64 ((c:Int)+1))=w4 at*;clear pc FJ CD m7 g7;have wA:Hy (Z=match mG D.cN jK with
     |none=>(yC jK,c+1)
     |some r=>
      if fj r≠0 then(cF [] (fj r),c+1)
      else if r.eU=false then(dL r.body,c+1)
      else if d=0 then(cF [] 5,c+1)
      else(eF (iC D (d-1) jK r.body (c+1)).1,(iC D (d-1) jK r.body (c+1)).2)):=by rw[Hy,ny.o,aa hc]
    clear hc ny;have m6:=SV.o.iz.cell 6;simp[nT]at m6;have HGC:=bD (Nv D.cN rv _ jK w4 SV.o.cR);have HGU:=bD (fun r=>T7 (l:=D.cN) (u:=jK) (r:=r));go_wp2_with fail;refine HGC.o.mono ?_;rintro e w5 ⟨rfl,kM⟩;have yx:=bD (Ka.o.below kM);have Br:=bD (SV.o.below kM);clear kM Ka SV m6 HGC;generalize mG D.cN jK=GF at*;rcases GF with _|r
    ·have Aw:Hy (Z=(yC jK,c+1)):=by rw[Hy,wA.o]
     clear wA;simp only[C4,gw.val,C2];have cg:=(cU w5 (.cells (dT C2) 41));have eH:=bD (yx.o.below cg);have kG:=bD (Br.o.below cg);go_upto_region 14 with(fail)
     change Code.wp _ _ _ _ (w5.alloc (.cells (dT C2) 41));generalize w5.alloc (.cells (dT C2) 41)=w6 at*;clear cg yx Br;obtain⟨r0,r1,r2,r3⟩:=lG eH.o.hR;simp[bI]at r0 r1 r2 r3;obtain⟨f0,f1,f2,f3⟩:=qm eH.o.hR;go_wp2_with fail;obtain⟨q1,q2⟩:=eH.o.fin kG.o (z:=Z) Aw.o (by simp[yC]);change bodyPost _ _ _ _ _ (dO w6 (P+1) (yC jK));exact ag (gz rfl q1) rfl q2
    ·obtain⟨Xb,ak0⟩:=HGU.o r rfl;have Aw:Hy (Z=if fj r≠0 then(cF [] (fj r),c+1)
      else if r.eU=false then(dL r.body,c+1)
      else if d=0 then(cF [] 5,c+1)
      else(eF (iC D (d-1) jK r.body (c+1)).1,(iC D (d-1) jK r.body (c+1)).2)):=by rw[Hy,wA.o]
     clear wA HGU;have au8:=bD Xb;have au9:=bD ak0;clear Xb ak0;have YE:fj r=0->r.body.length<=20000:=fun h=>by
      unfold fj at h;split at h
      ·rename_i h1;exact aX h h1
      ·split at h
       ·exact aX h (by decide)
       ·rename_i h2;have:¬20000<r.body.length:=fun h3=>h2 (.inr h3);omega
     have qT:=bD YE;clear YE;simp only[C4,gw.val];have cg:=(cU w5 (.cells (dT r) 41));have hX:=bL.new w5 41 (dT r);have FJ:=bD (yx.o.below cg);have CD:=bD (Br.o.below cg);go_upto_region 14 with(fail)
     change Code.wp _ _ _ _ (w5.alloc (.cells (dT r) 41));generalize w5.alloc (.cells (dT r) 41)=w6 at*;generalize w5.heap.size=X at*;have HX:=bD hX;clear cg yx Br hX;by_cases T8:fj r=0
     ·have rb:(fj r !=0)=false:=by rw[T8];rfl
      have HZ6:Hy (Z=if r.eU=false then(dL r.body,c+1)
       else if d=0 then(cF [] 5,c+1)
       else(eF (iC D (d-1) jK r.body (c+1)).1,(iC D (d-1) jK r.body (c+1)).2)):=by rw[Hy,Aw.o,aa (by simpa using T8)]
      have ak1:Hy (r.body.length<=20000):=qT.o T8;clear T8 Aw qT;have x2:=HX.o.cell 2;have x3:=HX.o.cell 3;simp[dT]at x2 x3;by_cases Rb:r.eU=false
      ·have HZ7:Hy (Z=(dL r.body,c+1)):=by rw[Hy,HZ6.o,ae Rb]
       rw[Rb]at x2;clear HZ6 Rb;have eH:=FJ;have kG:=CD;clear FJ CD;obtain⟨r0,r1,r2,r3⟩:=lG eH.o.hR;simp[bI]at r0 r1 r2 r3;obtain⟨f0,f1,f2,f3⟩:=qm eH.o.hR;go_wp2_with fail;obtain⟨q1,q2⟩:=eH.o.fin kG.o (z:=Z) HZ7.o (by have:=ak1.o;simp[dL];omega);change bodyPost _ _ _ _ _ (dO w6 (P+1) (dL r.body));exact ag (gz rfl q1) rfl q2
      ·have T9:r.eU=true:=by simpa using Rb
       have HZ7:Hy (Z=if d=0 then(cF [] 5,c+1)
        else(eF (iC D (d-1) jK r.body (c+1)).1,(iC D (d-1) jK r.body (c+1)).2)):=by rw[Hy,HZ6.o,aa Rb]
       obtain⟨hpu,po⟩:=au7.o r au8.o T9;rw[au9.o]at hpu;have No:=bD hpu;have HOK:=bD po;rw[T9]at x2;clear HZ6 Rb T9 hpu po;have p2:=FJ.o.hP.cell 2;simp at p2;by_cases h0:d=0
       ·have YF:Hy (Z=(cF [] 5,c+1)):=by rw[Hy,HZ7.o,ae h0]
        have fO:fU+1=5:=by have:=Xa.o;omega
        clear h0 HZ7;go_wp2_with fail;refine(Od v rv D.cN M jK r.body (c+1) w6 CD.o).mono ?_;rintro e w7 ⟨rfl,rI,Ua,-⟩;have Fp:=bD (FJ.o.grown rI);have Ub:=bD Ua;clear rI Ua FJ CD p2 x2 x3;simp only[fo.val,cF];go_wp2_with fail;refine(jV (cF [] 5) w7).mono ?_;rintro e w8 ⟨rfl,oN⟩;have eH:=bD (Fp.o.below oN);have kG:=bD (Ub.o.below oN);clear oN Fp Ub;have hlf:eF (cF [] 5)=cF [] 5:=by simp[eF,cF]
        rw[hlf];simp only[fo.val,cF];obtain⟨r0,r1,r2,r3⟩:=lG eH.o.hR;simp[bI]at r0 r1 r2 r3;obtain⟨f0,f1,f2,f3⟩:=qm eH.o.hR;go_wp2_with fail;obtain⟨q1,q2⟩:=eH.o.fin kG.o (z:=Z) YF.o (by simp[cF]);change bodyPost _ _ _ _ _ (dO w8 (P+1) (cF [] 5));exact ag (gz rfl q1) rfl q2
       ·obtain⟨d1,QJ⟩:∃d1,d=d1+1:=⟨d-1,by omega⟩;have YF:Hy (Z=(eF (iC D d1 jK r.body (c+1)).1,(iC D d1 jK r.body (c+1)).2)):=by rw[Hy,HZ7.o,aa h0,QJ,Nat.add_sub_cancel]
        have fO:fU+1=4-(d1:Int):=by have:=Xa.o;omega
        have Yk:=bD (Ra.o h0);rw[QJ,Nat.add_sub_cancel]at Yk;have GO:=bD (Bq v D rv M d1 jK r.body (fun _=>Yk.o _) (c+1) w6 No.o HOK.o CD.o (by omega) (by have:=ak1.o;omega));generalize iC D d1 jK r.body (c+1)=WC at*;have HD5:=bD fO;clear h0 HZ7 QJ fO;go_wp2_with fail;rw[HD5.o];refine GO.o.mono ?_;rintro e w7 ⟨rfl,rI,Ua,hl7⟩;have Fp:=bD (FJ.o.grown rI);have Ub:=bD Ua;have Lo:=bD (oD WC.1 hl7);clear rI Ua hl7 FJ CD p2 x2 x3 GO;go_wp2_with fail;refine(jV WC.1 w7).mono ?_;rintro e w8 ⟨rfl,oN⟩;have eH:=bD (Fp.o.below oN);have kG:=bD (Ub.o.below oN);clear oN Fp Ub;generalize eF WC.1=rr at*;simp only[fo.val];obtain⟨r0,r1,r2,r3⟩:=lG eH.o.hR;simp[bI]at r0 r1 r2 r3;obtain⟨f0,f1,f2,f3⟩:=qm eH.o.hR;go_wp2_with fail;obtain⟨q1,q2⟩:=eH.o.fin kG.o (z:=Z) YF.o Lo.o;change bodyPost _ _ _ _ _ (dO w8 (P+1) rr);exact ag (gz rfl q1) rfl q2
     ·have rb:(fj r !=0)=true:=by rw[aQ];exact T8
      have HZ6:Hy (Z=(cF [] (fj r),c+1)):=by rw[Hy,Aw.o,ae T8]
      clear T8 Aw;go_wp2_with fail;refine(iA [] (fj r) w6).mono ?_;rintro e w9 ⟨rfl,fq⟩;have eH:=bD (FJ.o.below fq);have kG:=bD (CD.o.below fq);clear fq FJ CD;simp only[fo.val,cF];obtain⟨r0,r1,r2,r3⟩:=lG eH.o.hR;simp[bI]at r0 r1 r2 r3;obtain⟨f0,f1,f2,f3⟩:=qm eH.o.hR;go_wp2_with fail;obtain⟨q1,q2⟩:=eH.o.fin kG.o (z:=Z) HZ6.o (by simp[cF]);change bodyPost _ _ _ _ _ (dO w9 (P+1) (cF [] (fj r)));exact ag (gz rfl q1) rfl q2
  ·have bb:(bad==0)=false:=by rw[ai];exact lM
   have bb2:(bad !=0)=true:=by rw[aQ];exact lM
   have ny:Hy (Z=(cF [] bad,c)):=by rw[Hy,gu.o,ae lM]
   clear lM gu;go_wp2_with fail;refine(iA [] bad w3).mono ?_;rintro e w9 ⟨rfl,fq⟩;have eH:=bD (FJ.o.below fq);have kG:=bD (CD.o.below fq);clear fq FJ CD;simp only[fo.val,cF];obtain⟨r0,r1,r2,r3⟩:=lG eH.o.hR;simp[bI]at r0 r1 r2 r3;obtain⟨f0,f1,f2,f3⟩:=qm eH.o.hR;go_wp2_with fail;obtain⟨q1,q2⟩:=eH.o.fin kG.o (z:=Z) ny.o (by simp[cF]);change bodyPost _ _ _ _ _ (dO w9 (P+1) (cF [] bad));exact ag (gz rfl q1) rfl q2
 ·have gu:Hy (Z=if 20<=c then(cF [] 4,c)
   else if d=0 then(cF [] 5,c+1)
   else(eF (cT D (gJ D (d-1) base el) false 0 [] bE (c+1)).1,(cT D (gJ D (d-1) base el) false 0 [] bE (c+1)).2)):=by rw[Hy,HZ.o,Tq]
  have ak2:=xG el j4.o Tq;obtain⟨Ak,ck,rfl,-⟩:=dW hkg;have M1:=bD hkg;have WS:=bD ak2;clear Tq HZ hkg ak2;have FJ:=uj;have CD:=Cf;clear uj Cf;have m7:=CD.o.iz.cell 7;simp[nT]at m7;by_cases hc:20<=c
  ·have hci:(20:Int)<=(c:Int):=by omega
   have wA:Hy (Z=(cF [] 4,c)):=by rw[Hy,gu.o,ae hc]
   clear hc gu;go_wp2_with fail;refine(iA [] 4 w2).mono ?_;rintro e w9 ⟨rfl,fq⟩;have eH:=bD (FJ.o.below fq);have kG:=bD (CD.o.below fq);clear fq FJ CD;simp only[fo.val,cF];obtain⟨r0,r1,r2,r3⟩:=lG eH.o.hR;simp[bI]at r0 r1 r2 r3;obtain⟨f0,f1,f2,f3⟩:=qm eH.o.hR;go_wp2_with fail;obtain⟨q1,q2⟩:=eH.o.fin kG.o (z:=Z) wA.o (by simp[cF]);change bodyPost _ _ _ _ _ (dO w9 (P+1) (cF [] 4));exact ag (gz rfl q1) rfl q2
  ·have hci:¬(20:Int)<=(c:Int):=by omega
   have g7:=CD.o.iz.frozen 7;go_upto_region 11 with(fail)
   have pc:w2.grownBy (w2.setCell ⟨M,7,none⟩ (.int .i64 ((c:Int)+1))) (some M):=bF (bR _ _) (.inl rfl) _;have Ka:=bD (FJ.o.grown pc);have SV:=bD (CD.o.T6 hc);have Cg:=bD (j6.o.grown pc (fun k h=>h));have HK4:=bD (M1.o.grown pc (fun k h=>h));change Code.wp _ _ _ _ (w2.setCell ⟨M,7,none⟩ (.int .i64 ((c:Int)+1)));generalize w2.setCell ⟨M,7,none⟩ (.int .i64 ((c:Int)+1))=w4 at*;clear pc FJ CD m7 g7 j6 M1;have ny:Hy (Z=if d=0 then(cF [] 5,c+1)
    else(eF (cT D (gJ D (d-1) base el) false 0 [] bE (c+1)).1,(cT D (gJ D (d-1) base el) false 0 [] bE (c+1)).2)):=by rw[Hy,gu.o,aa hc]
   clear hc gu;obtain⟨p0,p1,p2⟩:=nw Ka.o.hP;simp at p0 p1 p2;by_cases h0:d=0
   ·have YF:Hy (Z=(cF [] 5,c+1)):=by rw[Hy,ny.o,ae h0]
    have fO:fU+1=5:=by have:=Xa.o;omega
    clear h0 ny;go_wp2_with fail;refine(Ln v rv D.cN M base _ _ _ _ _ _ (c+1) w4 SV.o).mono ?_;rintro e w7 ⟨rfl,rI,Ua,-⟩;have eH:=bD (Ka.o.grown rI);have kG:=bD Ua;clear rI Ua Ka SV p0 p1 p2;simp only[fo.val,cF];obtain⟨r0,r1,r2,r3⟩:=lG eH.o.hR;simp[bI]at r0 r1 r2 r3;obtain⟨f0,f1,f2,f3⟩:=qm eH.o.hR;go_wp2_with fail;obtain⟨q1,q2⟩:=eH.o.fin kG.o (z:=Z) YF.o (by simp[cF]);change bodyPost _ _ _ _ _ (dO w7 (P+1) (cF [] 5));exact ag (gz rfl q1) rfl q2
   ·obtain⟨d1,QJ⟩:∃d1,d=d1+1:=⟨d-1,by omega⟩;have YF:Hy (Z=(eF (cT D (gJ D d1 base el) false 0 [] bE (c+1)).1,(cT D (gJ D d1 base el) false 0 [] bE (c+1)).2)):=by rw[Hy,ny.o,aa h0,QJ,Nat.add_sub_cancel]
    have fO:fU+1=4-(d1:Int):=by have:=Xa.o;omega
    have Yk:=bD (Ra.o h0);rw[QJ,Nat.add_sub_cancel]at Yk;have GO:=bD (Ja v D rv M d1 bE el (Yk.o _) base _ _ (c+1) w4 HBP.o j4.o WS.o SV.o (by omega) Cg.o HK4.o);rw[<-YF.o]at GO;have HD5:=bD fO;clear h0 ny QJ fO Yk;go_wp2_with fail;rw[HD5.o];refine GO.o.mono ?_;rintro e w7 ⟨rfl,rI,Ua,hl7⟩;have eH:=bD (Ka.o.grown rI);have kG:=bD Ua;have Lo:=bD hl7;clear rI Ua hl7 Ka SV p0 p1 p2 GO YF;obtain⟨rr,cz⟩:=Z;simp only[fo.val]at*;obtain⟨r0,r1,r2,r3⟩:=lG eH.o.hR;simp[bI]at r0 r1 r2 r3;obtain⟨f0,f1,f2,f3⟩:=qm eH.o.hR;go_wp2_with fail;obtain⟨q1,q2⟩:=eH.o.fin kG.o (z:=(rr,cz)) rfl Lo.o;change bodyPost _ _ _ _ _ (dO w7 (P+1) rr);exact ag (gz rfl q1) rfl q2
end Go.Proofs.YtejafaaihodehaaGreatDoor
