/- Part 36. -/
import Derived.Test.YtejafaaihodehaaGreatDoorZ35
set_option linter.all false
set_option maxRecDepth 100000
set_option maxHeartbeats 8000000
namespace Go.Proofs.YtejafaaihodehaaGreatDoor
open Go Go.RowKit Tryz
theorem BA{w:World}{X:Nat}{tmps:Array Value}{r:fo}(h4:tmps[10]?.getD undef=.pointer (some ⟨X,0,none⟩))(B0:bL w X 31 (bI r)):
 (results f72 tmps).run prog w=.ok r.val w:=by
 obtain⟨a0,a1,a2,a3⟩:=lG B0;simp[bI]at a0 a1 a2 a3;simp[results,results72,go_sem,h4,a0,a1,a2,a3,fo.val]
structure Rn(v:cK)(rv:Value)(cR:List gw)(w W:World)(M P:Nat)(base:Bt)(el:List Elem)(pv:Value)(fU:Int)(x:Elem)(kv:Value)(c:Nat)(b off:Nat)(la lb:List Elem)(va vb:Value):Prop where
 st:Jd w W M P base pv fU x kv
 mm:MK v rv cR M W c
 pg:GR W (fun k=>k≠M/\k<w.heap.size) (.row 7 (el.map Elem.gv)) [pv]
 ka:GR W (fun k=>k≠M/\k<w.heap.size) (.row 7 (la.map Elem.gv)) [va]
 kb:GR W (fun k=>k≠M/\k<w.heap.size) (.row 7 (lb.map Elem.gv)) [vb]
 ca:W.cell? ⟨b,off+6,none⟩=some va
 cb:W.cell? ⟨b,off+7+6,none⟩=some vb
 bM:b≠M
 bw:b<w.heap.size
section
variable {v:cK} {rv:Value} {cR:List gw} {w W W':World} {M P:Nat} {base:Bt} {el:List Elem} {pv:Value} {fU:Int} {x:Elem} {kv:Value} {c:Nat} {b off:Nat} {la lb:List Elem} {va vb:Value}
theorem Rn.below(h:Rn v rv cR w W M P base el pv fU x kv c b off la lb va vb)(hb:Below W.heap.size W W'):Rn v rv cR w W' M P base el pv fU x kv c b off la lb va vb:=
 ⟨h.st.below hb,h.mm.below hb,h.pg.below hb,h.ka.below hb,h.kb.below hb,by rw[hb.cell (aq W _ h.ca)];exact h.ca,by rw[hb.cell (aq W _ h.cb)];exact h.cb,h.bM,h.bw⟩
theorem Rn.grown{c':Nat}(h:Rn v rv cR w W M P base el pv fU x kv c b off la lb va vb)(hg:W.grownBy W' (some M))(hm:MK v rv cR M W' c'):Rn v rv cR w W' M P base el pv fU x kv c' b off la lb va vb:=by
 have hb:W'.heap[b]?=W.heap[b]?:=hg.block b (aq W _ h.ca) (fun e=>h.bM (ar e));exact⟨h.st.grown hg,hm,h.pg.grown hg (fun k h=>h.1),h.ka.grown hg (fun k h=>h.1),h.kb.grown hg (fun k h=>h.1),by rw[aW (w:=W) (a:=⟨b,off+6,none⟩) hb];exact h.ca,by rw[aW (w:=W) (a:=⟨b,off+7+6,none⟩) hb];exact h.cb,h.bM,h.bw⟩
theorem Rn.fill{Y:Nat}(h:Rn v rv cR w W M P base el pv fU x kv c b off la lb va vb)(hY:P+1+1<Y)(r:fo):Rn v rv cR w (dO W Y r) M P base el pv fU x kv c b off la lb va vb:=by
 have hs:=xw W Y r;have h2:=h.st.Ob;have h3:=h.bw;have db:b≠Y:=by omega
 have hb:(dO W Y r).heap[b]?=W.heap[b]?:=hs.block b (aq W _ h.ca) (fun e=>db (ar e));exact⟨h.st.jx hs hY,h.mm.jx hs (by have:=h.st.Gx;omega),h.pg.grown hs (fun k hk=>by have:=hk.2;omega),h.ka.grown hs (fun k hk=>by have:=hk.2;omega),h.kb.grown hs (fun k hk=>by have:=hk.2;omega),by rw[aW (w:=W) (a:=⟨b,off+6,none⟩) hb];exact h.ca,by rw[aW (w:=W) (a:=⟨b,off+7+6,none⟩) hb];exact h.cb,h.bM,h.bw⟩
def aa4(W:World)(P:Nat)(base:Bt)(pv:Value)(fU:Int)(kv:Value)(b off:Nat)(va vb:Value):Prop:=
 W.cell? ⟨P,0,none⟩=some (.string (bs base))/\W.cell? ⟨P,1,none⟩=some pv/\W.cell? ⟨P,2,none⟩=some (.int .i64 fU)/\W.cell? ⟨P+1,6,none⟩=some kv/\W.cell? ⟨b,off+6,none⟩=some va/\W.cell? ⟨b,off+7+6,none⟩=some vb
theorem Rn.cells(h:Rn v rv cR w W M P base el pv fU x kv c b off la lb va vb):aa4 W P base pv fU kv b off va vb:=
 ⟨h.st.hP.cell 0,h.st.hP.cell 1,h.st.hP.cell 2,h.st.hE.cell 6,h.ca,h.cb⟩
end
theorem Oq(v:cK)(D:lq)(rv:Value)(M:Nat)(base:Bt)(el:List Elem)(fU:Int)(tk:Tk)(x:Elem)(ib:∀k (h:k<x.bE.length),Bs v D rv M base el fU tk x.bE[k].bE)(h2:2<=x.bE.length):
 Xd 72 v D rv M base el fU x (fun sub n c=>um D tk sub x.bE c):=by
 intro pv kv sub n c w hm qX NK hn;obtain⟨ea,eb,lr,SY⟩:∃a b l,x.bE=a::b::l:=by
  cases h:x.bE with
  |nil=>rw[h]at h2;simp at h2
  |cons a l=>
   cases l with
   |nil=>rw[h]at h2;simp at h2
   |cons b l=>exact⟨a,b,l,rfl⟩
 have hra:=ib 0 (by omega);have T8:=ib 1 (by omega);have hea:x.bE[0]=ea:=by simp[SY]
 have heb:x.bE[1]=eb:=by simp[SY]
 rw[hea]at hra;rw[heb]at T8;have HRA:=bD hra;have zZ:=bD T8;have HZ:Hy (um D tk sub x.bE c=if(cT D tk sub 0 [] ea.bE c).1.state=2 then(eF (cT D tk sub 0 [] eb.bE (cT D tk sub 0 [] ea.bE c).2).1,(cT D tk sub 0 [] eb.bE (cT D tk sub 0 [] ea.bE c).2).2)
  else(eF (cT D tk sub 0 [] ea.bE c).1,(cT D tk sub 0 [] ea.bE c).2)):=by rw[Hy,SY,Tv]
 obtain⟨Ap,cp,rfl,-⟩:=dW qX;obtain⟨Al,cl,rfl,zQ,mz,dS⟩:=dW (GR.du _ _ NK);unfold maxLen at mz;obtain⟨b,off,rfl,PO,dS⟩:=dS (by rw[SY];simp);obtain⟨Aa,ca,hEa⟩:=dS 0 (by omega);obtain⟨Ab,cb,hEb⟩:=dS 1 (by omega);have ha6:=hEa.c6;have mo:=hEb.c6;have hak:=hEa.bE;have Oe:=hEb.bE;rw[hea]at ha6 hak;rw[heb]at mo Oe;simp only[Nat.zero_mul,Nat.add_zero,Nat.one_mul]at ha6 mo;simp only;generalize um D tk sub x.bE c=Z at*;have cg:Below w.heap.size w (((w.alloc (.cells #[.string (bs base),.slice Ap el.length cp,.int .i64 fU] 70)).alloc (.cells (dp x (.slice (some ⟨b,off,none⟩) x.bE.length cl)).toArray 62)).alloc (.cells (bI fy) 31)):=
  ((cU _ _).alloc (by rw[size_alloc];omega) _).alloc (by rw[size_alloc,size_alloc];omega) _
 have sN:Hy (Rn v rv D.cN w (((w.alloc (.cells #[.string (bs base),.slice Ap el.length cp,.int .i64 fU] 70)).alloc (.cells (dp x (.slice (some ⟨b,off,none⟩) x.bE.length cl)).toArray 62)).alloc (.cells (bI fy) 31)) M w.heap.size base el (.slice Ap el.length cp) fU x (.slice (some ⟨b,off,none⟩) x.bE.length cl) c b off ea.bE eb.bE (.slice Aa ea.bE.length ca) (.slice Ab eb.bE.length cb)):=
  ⟨Jd.start w hm.iz.lt base (.slice Ap el.length cp) fU x (.slice (some ⟨b,off,none⟩) x.bE.length cl),hm.below cg,(GR.du _ _ qX).below cg,hak.below cg,Oe.below cg,by rw[cg.cell PO.2];exact ha6,by rw[cg.cell PO.2];exact mo,PO.1,PO.2⟩
 have MY:(0:Int)<(x.bE.length:Int):=by omega
 have tD:(1:Int)<(x.bE.length:Int):=by omega
 have Cw:0<x.bE.length:=by omega
 have QH:1<x.bE.length:=by omega
 clear ib hra T8 qX NK hm cg hn h2 SY hea heb dS hEa hEb ha6 mo hak Oe PO;simp only[Dw];go_enter func72,ntmps72;go_upto_region 1 with(fail)
 change Code.wp _ _ _ _ (((w.alloc (.cells #[.string (bs base),.slice Ap el.length cp,.int .i64 fU] 70)).alloc (.cells (dp x (.slice (some ⟨b,off,none⟩) x.bE.length cl)).toArray 62)).alloc (.cells (bI fy) 31));generalize((w.alloc (.cells #[.string (bs base),.slice Ap el.length cp,.int .i64 fU] 70)).alloc (.cells (dp x (.slice (some ⟨b,off,none⟩) x.bE.length cl)).toArray 62)).alloc (.cells (bI fy) 31)=w0 at*;have HPW:Hy (w.heap.size=w.heap.size):=rfl;generalize Dz:w.heap.size=P at*;have kz:=bD Dz;clear Dz HPW;go_cut [11]from 12 to 20 (fun pv wx=>∃Y:Nat,pv=.pointer (some ⟨Y,0,none⟩)/\P+1+1<Y/\Hy (bL wx Y 31 (bI (cT D tk sub 0 [] ea.bE c).1))/\Hy ((cT D tk sub 0 [] ea.bE c).1.out.length<=100000000)/\Hy (Rn v rv D.cN w wx M P base el (.slice Ap el.length cp) fU x (.slice (some ⟨b,off,none⟩) x.bE.length cl) (cT D tk sub 0 [] ea.bE c).2 b off ea.bE eb.bE (.slice Aa ea.bE.length ca) (.slice Ab eb.bE.length cb)))
 case first=>
  have hd:Below w0.heap.size w0 w0.drew:=(aF _ _).drew;have hS:=(sN.o.below hd).cells;have hJ:=bD (sN.o.below hd);clear hd sN;refine aL (S:=(fun w'=>aa4 w' P base (.slice Ap el.length cp) fU (.slice (some ⟨b,off,none⟩) x.bE.length cl) b off (.slice Aa ea.bE.length ca) (.slice Ab eb.bE.length cb))) (by kernel_rfl) ?_;change wpAnyH _ _ _ _ _ _ _ _ (World.drew _);refine jw 0 hS ?_;refine jw 1 hS ?_;refine jw 2 hS ?_;refine jw 3 hS ?_;refine jw 4 hS ?_;refine jw 5 hS ?_;refine jw 6 hS ?_;refine jw 7 hS ?_;have mE:=bD (HRA.o (.slice Ap el.length cp) _ sub 0 c w0.drew hJ.o.mm (hJ.o.pg.dY (fun k h=>h.1)) (hJ.o.ka.dY (fun k h=>h.1)) (ax _));rw[show((0:Nat):Int)=0 from rfl]at mE;have cg:=cU w0.drew (.cells (bI fy) 31);have lP:=bD (hJ.o.below cg);have Gt:=bD (HRA.o (.slice Ap el.length cp) _ sub 0 c _ lP.o.mm (lP.o.pg.dY (fun k h=>h.1)) (lP.o.ka.dY (fun k h=>h.1)) (ax _));rw[show((0:Nat):Int)=0 from rfl]at Gt;have hY9:bL (w0.drew.alloc (.cells (bI fy) 31)) w0.heap.size 31 (bI fy):=bL.new w0.drew 31 (bI fy);have HY9:=bD hY9;have Lq:P+1+1<w0.heap.size:=hJ.o.st.hR.lt;have Re:=bD Lq;clear cg hY9 Lq;generalize cT D tk sub 0 [] ea.bE c=TA at*;obtain⟨ra,c1⟩:=TA;refine bC (rs:=[8,9]) (by kernel_rfl) (by simp) ?_;refine AllReadyH.cons rfl (fun K_ bP=>?_) (AllReadyH.cons rfl (fun K_ bP=>?_) AllReadyH.nil)
  ·go_simp;refine mE.o.mono ?_;rintro e w1 ⟨rfl,mn,M0,tD⟩;have dm:=bD (hJ.o.grown mn M0);have HL:Hy (ra.out.length<=100000000):=tD;have hS2:=dm.o.cells;have hY:=bL.new w1 31 (bI ra);have Lq:P+1+1<w1.heap.size:=dm.o.st.hR.lt;clear mn M0 tD hJ mE Gt lP HY9 Re hS;simp only[fo.val];refine bP.out _ _ hS2 fun _=>?_;clear bP K_;refine fr 9 (fun K_ bP=>?_);go_simp;have cg:=cU w1 (.cells (bI fy) 31);have gI:=bD (dm.o.below cg);have HY:=bD (bL.new w1 31 (bI fy));have wz:=gI.o.cells;clear cg hY dm hS2;change K_ _ (w1.alloc (.cells (bI fy) 31));refine bP.out _ _ wz fun _=>?_;clear bP K_;generalize w1.alloc (.cells (bI fy) 31)=w3 at*;generalize w1.heap.size=Y at*;obtain⟨y0,y1,y2,y3⟩:=lG HY.o;simp[bI]at y0 y1 y2 y3;obtain⟨g0,g1,g2,g3⟩:=qm HY.o;refine fr 10 (fun K_ bP=>?_);go_simp;have iW:=bD (gI.o.fill Lq ra);have Un:=bD (jB HY.o ra);change K_ _ (dO w3 Y ra);refine bP.out _ _ iW.o.cells fun _=>?_;clear bP K_;refine aJ (by kernel_rfl) ?_ _;go_simp;go_wp2_with fail;go_meet
   case rel=>exact⟨Y,rfl,Lq,Un.o,HL.o,iW.o⟩
  ·go_simp;change K_ _ (w0.drew.alloc (.cells (bI fy) 31));refine bP.out _ _ lP.o.cells fun _=>?_;clear bP K_ hS mE hJ;generalize w0.drew.alloc (.cells (bI fy) 31)=w3 at*;generalize w0.heap.size=Y at*;have Lq:=Re.o;refine fr 8 (fun K_ bP=>?_);go_simp;refine Gt.o.mono ?_;rintro e w4 ⟨rfl,mn,M0,tD⟩;have gI:=bD (lP.o.grown mn M0);have HL:Hy (ra.out.length<=100000000):=tD;have HY:=bD (HY9.o.grown mn (by have h1:=lP.o.st.Gx;have h2:=lP.o.st.Ob;simp;omega));have wz:=gI.o.cells;clear mn M0 tD lP Gt HY9 Re;simp only[fo.val];refine bP.out _ _ wz fun _=>?_;clear bP K_;obtain⟨y0,y1,y2,y3⟩:=lG HY.o;simp[bI]at y0 y1 y2 y3;obtain⟨g0,g1,g2,g3⟩:=qm HY.o;refine fr 10 (fun K_ bP=>?_);go_simp;have iW:=bD (gI.o.fill Lq ra);have Un:=bD (jB HY.o ra);change K_ _ (dO w4 Y ra);refine bP.out _ _ iW.o.cells fun _=>?_;clear bP K_;refine aJ (by kernel_rfl) ?_ _;go_simp;go_wp2_with fail;go_meet
   case rel=>exact⟨Y,rfl,Lq,Un.o,HL.o,iW.o⟩
 case rest=>
  clear sN HRA;obtain⟨Y,rfl,Lq,HY,HL,HB⟩:=hcut;obtain⟨w4,rfl⟩:∃w4:World,w4=wc:=⟨_,rfl⟩;have Re:=bD Lq;generalize cT D tk sub 0 [] ea.bE c=TA at*;obtain⟨ra,c1⟩:=TA;simp only at HZ HY HL HB;clear Lq;obtain⟨y0,y1,y2,y3⟩:=lG HY.o;simp[bI]at y0 y1 y2 y3;by_cases MW:ra.state=2
  ·have CE:Hy (Z=(eF (cT D tk sub 0 [] eb.bE c1).1,(cT D tk sub 0 [] eb.bE c1).2)):=by rw[Hy,HZ.o,ae MW]
   rw[MW]at y1;clear HZ MW HL;go_upto_region 3 with(fail)
   have hd:Below w4.heap.size w4 w4.drew:=(aF _ _).drew;have hJ:=bD (HB.o.below hd);have HY1:=bD (HY.o.below hd HY.o.lt);have hS:=hJ.o.cells;clear hd HB HY y0 y1 y2 y3;refine aL (S:=(fun w'=>aa4 w' P base (.slice Ap el.length cp) fU (.slice (some ⟨b,off,none⟩) x.bE.length cl) b off (.slice Aa ea.bE.length ca) (.slice Ab eb.bE.length cb))) (by kernel_rfl) ?_;change wpAnyH _ _ _ _ _ _ _ _ (World.drew _);refine jw 0 hS ?_;refine jw 1 hS ?_;refine jw 2 hS ?_;refine jw 3 hS ?_;refine jw 4 hS ?_;refine jw 5 hS ?_;refine jw 6 hS ?_;refine jw 7 hS ?_;have mE:=bD (zZ.o (.slice Ap el.length cp) _ sub 0 c1 w4.drew hJ.o.mm (hJ.o.pg.dY (fun k h=>h.1)) (hJ.o.kb.dY (fun k h=>h.1)) (ax _));rw[show((0:Nat):Int)=0 from rfl]at mE;generalize cT D tk sub 0 [] eb.bE c1=TB at*;obtain⟨rb,c2⟩:=TB;refine fr 8 (fun K_ bP=>?_);go_simp;refine mE.o.mono ?_;rintro e w5 ⟨rfl,mn,M0,tD⟩;have gI:=bD (hJ.o.grown mn M0);have HL:Hy (rb.out.length<=100000000):=tD;have YP:=bD (HY1.o.grown mn (by have h1:=hJ.o.st.Gx;have h2:=hJ.o.st.Ob;have h3:=Re.o;simp;omega));have wz:=gI.o.cells;clear mn M0 tD hJ mE HY1 hS;have HY:=YP;clear YP;simp only[fo.val];refine bP.out _ _ wz fun _=>?_;clear bP K_;obtain⟨y0,y1,y2,y3⟩:=lG HY.o;simp[bI]at y0 y1 y2 y3;obtain⟨g0,g1,g2,g3⟩:=qm HY.o;refine fr 9 (fun K_ bP=>?_);go_simp;have iW:=bD (gI.o.fill Re.o rb);have Un:=bD (jB HY.o rb);change K_ _ (dO w5 Y rb);refine bP.out _ _ iW.o.cells fun _=>?_;clear bP K_ HY gI y0 y1 y2 y3 g0 g1 g2 g3 wz;generalize dO w5 Y rb=w6 at*;refine aJ (by kernel_rfl) ?_ _;have HY:=Un;have HB:=iW;have gu:Hy (Z=(eF rb,c2)):=CE;clear Un iW CE;go_simp;obtain⟨y0,y1,y2,y3⟩:=lG HY.o;simp[bI]at y0 y1 y2 y3;go_wp2_with fail;refine(jV rb w6).mono ?_;rintro e w9 ⟨rfl,fq⟩;have eH:=bD (HB.o.below fq).st;have kG:=bD (HB.o.below fq).mm;have uG:=bD (oD _ HL.o);clear fq HB HY HL y0 y1 y2 y3;generalize eF rb=r9 at*;simp only[fo.val];obtain⟨r0,r1,r2,r3⟩:=lG eH.o.hR;simp[bI]at r0 r1 r2 r3;obtain⟨f0,f1,f2,f3⟩:=qm eH.o.hR;go_wp2_with fail;obtain⟨q1,q2⟩:=eH.o.fin kG.o (z:=Z) gu.o uG.o;change bodyPost _ _ _ _ _ (dO w9 (P+1+1) r9);exact ag (BA rfl q1) rfl q2
  ·have bs2:(ra.state==2)=false:=by rw[ai];exact MW
   have gu:Hy (Z=(eF ra,c1)):=by rw[Hy,HZ.o,aa MW]
   clear HZ MW zZ;go_wp2_with fail;refine(jV ra w4).mono ?_;rintro e w9 ⟨rfl,fq⟩;have eH:=bD (HB.o.below fq).st;have kG:=bD (HB.o.below fq).mm;have uG:=bD (oD _ HL.o);clear fq HB HY HL y0 y1 y2 y3;generalize eF ra=r9 at*;simp only[fo.val];obtain⟨r0,r1,r2,r3⟩:=lG eH.o.hR;simp[bI]at r0 r1 r2 r3;obtain⟨f0,f1,f2,f3⟩:=qm eH.o.hR;go_wp2_with fail;obtain⟨q1,q2⟩:=eH.o.fin kG.o (z:=Z) gu.o uG.o;change bodyPost _ _ _ _ _ (dO w9 (P+1+1) r9);exact ag (BA rfl q1) rfl q2
theorem na{w:World}{X:Nat}{tmps:Array Value}{r:fo}(h4:tmps[10]?.getD undef=.pointer (some ⟨X,0,none⟩))(B0:bL w X 31 (bI r)):
 (results f71 tmps).run prog w=.ok r.val w:=by
 obtain⟨a0,a1,a2,a3⟩:=lG B0;simp[bI]at a0 a1 a2 a3;simp[results,results71,go_sem,h4,a0,a1,a2,a3,fo.val]
theorem FN(v:cK)(D:lq)(rv:Value)(M:Nat)(base:Bt)(el:List Elem)(fU:Int)(tk:Tk)(x:Elem)(ib:∀k (h:k<x.bE.length),Bs v D rv M base el fU tk x.bE[k].bE)
 (B4:∀k (h:k<x.bE.length),x.bE[k].kind≠9->I9 v D x.bE[k].test):
 Xd 71 v D rv M base el fU x (fun sub n c=>fQ D tk sub n x.bE c):=by
 intro pv kv sub n c w hm qX NK hn;obtain⟨Ap,cp,rfl,-⟩:=dW qX;obtain⟨Al,cl,rfl,zQ,mz,-⟩:=dW NK;unfold maxLen at mz;have Ra:=bD ib;have Am:=bD B4;have E8:=bD qX;have HLV:=bD NK;have HZ0:Hy (fQ D tk sub n x.bE c=fQ D tk sub n (x.bE.drop 0) c):=rfl;simp only;generalize fQ D tk sub n x.bE c=Z at*;have cg:Below w.heap.size w (((w.alloc (.cells #[.string (bs base),.slice Ap el.length cp,.int .i64 fU] 70)).alloc (.cells (dp x (.slice Al x.bE.length cl)).toArray 62)).alloc (.cells (bI fy) 31)):=
  ((cU _ _).alloc (by rw[size_alloc];omega) _).alloc (by rw[size_alloc,size_alloc];omega) _
 have sN:=bD (Jd.start w hm.iz.lt base (.slice Ap el.length cp) fU x (.slice Al x.bE.length cl));have VS:=bD (hm.below cg);have tQ:(n:Int)<=20000:=by omega
 have HN:=bD hn;clear ib B4 qX NK hm cg hn;simp only[Dw];go_enter func71,ntmps71;go_upto_region 1 with(fail)
 change Code.wp _ _ _ _ (((w.alloc (.cells #[.string (bs base),.slice Ap el.length cp,.int .i64 fU] 70)).alloc (.cells (dp x (.slice Al x.bE.length cl)).toArray 62)).alloc (.cells (bI fy) 31));generalize((w.alloc (.cells #[.string (bs base),.slice Ap el.length cp,.int .i64 fU] 70)).alloc (.cells (dp x (.slice Al x.bE.length cl)).toArray 62)).alloc (.cells (bI fy) 31)=w0 at*;generalize Dz:w.heap.size=P at*;clear Dz;have e6:=sN.o.hE.cell 6;simp[dp]at e6;go_wp2_with fail;clear e6;go_loopw [18] (fun i wr=>∃(k:Nat),k<=x.bE.length/\i=.int .i64 k/\Hy (Z=fQ D tk sub n (x.bE.drop k) c)/\Hy (Jd w wr M P base (.slice Ap el.length cp) fU x (.slice Al x.bE.length cl))/\Hy (MK v rv D.cN M wr c))
  (fun i wr=>x.bE.length-(intOf i).toNat)
 case atStart=>exact⟨0,ax _,rfl,HZ0.o,sN.o,VS.o⟩
 case round=>
  clear HZ0 sN VS;obtain⟨k,hk,rfl,HZ,HS,HM⟩:=hrel;by_cases bW:k<x.bE.length
  ·have hlw:=HLV.o.grown HS.o.g (fun k h=>h);have hpw:=E8.o.grown HS.o.g (fun k h=>h);obtain⟨A',c',WA,-,-,dS⟩:=dW hlw;injection WA with q1 q2 q3
   subst q1 q3;obtain⟨b,off,rfl,PO,dS⟩:=dS (by intro h;rw[h]at bW;simp at bW);obtain⟨Ak,Xe,hE⟩:=dS k bW;have e0:=hE.c0;have e1:=hE.c1;have e2:=hE.c2;have e3:=hE.c3;have e4:=hE.c4;have e5:=hE.c5;have e6:=hE.c6;have VK:=bD hE.bE;have HPW:=bD hpw;have H1:=bD (Ra.o k bW);have H2:=bD (Am.o k bW);have gu:Hy (Z=fQ D tk sub n (x.bE[k]::x.bE.drop (k+1)) c):=by rw[Hy,HZ.o,aE bW]
   rw[IB]at gu;have nE:(0:Int)<=(k:Int):=by omega
   have fA:(k:Int)<(x.bE.length:Int):=by omega
   clear hE dS hlw hpw q2 HZ PO;generalize x.bE[k]=y at*;go_upto_region 4 with(fail)
   have hX:=bL.new wr 62 (dp y (.slice Ak y.bE.length Xe)).toArray;have cg:Below wr.heap.size wr (wr.alloc (.cells (dp y (.slice Ak y.bE.length Xe)).toArray 62)):=cU _ _;have yx:=bD (HS.o.below cg);have Br:=bD (HM.o.below cg);have Gz:=bD (VK.o.below cg);have M3:=bD (HPW.o.below cg);change Code.wp _ _ _ _ (wr.alloc (.cells (dp y (.slice Ak y.bE.length Xe)).toArray 62));generalize wr.alloc (.cells (dp y (.slice Ak y.bE.length Xe)).toArray 62)=w5 at*;clear e0 e1 e2 e3 e4 e5 e6 cg VK HPW HS HM;generalize wr.heap.size=X at*;have HX:=bD hX;clear hX;have x0:=HX.o.cell 0;have x5:=HX.o.cell 5;have x6:=HX.o.cell 6;obtain⟨p0,p1,p2⟩:=nw yx.o.hP;simp[dp]at x0 x5 x6 p0 p1 p2;by_cases k9:y.kind=9
   ·have b9:(y.kind==9)=true:=by rw[k9];rfl
    have ny:Hy (Z=cT D tk sub n [] y.bE c):=by rw[Hy,gu.o,ae k9]
    clear gu k9 H2;have mE:=bD (H1.o _ _ sub n c w5 Br.o M3.o Gz.o HN.o);generalize cT D tk sub n [] y.bE c=O at*;obtain⟨r,c2⟩:=O;go_wp2_with fail;refine mE.o.mono ?_;rintro e w6 ⟨rfl,J0,YK,YL⟩;have eH:=bD (yx.o.grown J0);have kG:=bD YK;have uG:Hy (r.out.length<=100000000):=YL;clear J0 YK YL yx Br Gz M3 x0 x5 x6 p0 p1 p2 mE HX;simp only[fo.val];obtain⟨r0,r1,r2,r3⟩:=lG eH.o.hR;simp[bI]at r0 r1 r2 r3;obtain⟨f0,f1,f2,f3⟩:=qm eH.o.hR;go_wp2_with fail;obtain⟨q1,q2⟩:=eH.o.fin kG.o (z:=Z) ny.o uG.o;change bodyPost _ _ _ _ _ (dO w6 (P+1+1) r);exact ag (na rfl q1) rfl q2
   ·have b9:(y.kind==9)=false:=by rw[ai];exact k9
    have wA:Hy (Z=if(D.test y.test).2≠0 then(cF [] (D.test y.test).2,c)else if(D.test y.test).1 then cT D tk sub n [] y.bE c else fQ D tk sub n (x.bE.drop (k+1)) c):=by rw[Hy,gu.o,aa k9]
    have HT:Hy (∀d os,_):=fun d os=>Calls.regrown_of (H2.o k9 (Go.Sort.grow (redrawn w5 d) os) (Br.o.pP.below (below_regrown w5 d os)));have m0:=cell_regrown (Br.o.iz.cell 0);have m1:=cell_regrown (Br.o.iz.cell 1);have m2:=cell_regrown (Br.o.iz.cell 2);have m3:=cell_regrown (Br.o.iz.cell 3);have m4:=cell_regrown (Br.o.iz.cell 4);have m5:=cell_regrown (Br.o.iz.cell 5);have fx:=cell_regrown x5;simp[nT]at m0 m1 m2 m3 m4 m5;simp only[cK.val]at HT;generalize D.test y.test=TV at*;obtain⟨tb,te⟩:=TV;simp only at HT wA;clear gu k9 H2;go_upto_region 7 with(fail)
    refine wp_region_quiet_below (by kernel_rfl) (by kernel_rfl) ?_;quiet_step (exact HT.o _ _);quiet_step (exact HT.o _ _);quiet_step (exact HT.o _ _);quiet_step (exact HT.o _ _);quiet_step (exact HT.o _ _);quiet_step (exact HT.o _ _);quiet_step (exact HT.o _ _);quiet_step (exact HT.o _ _);quiet_step (exact HT.o _ _);quiet_step (exact HT.o _ _);quiet_step (exact HT.o _ _);quiet_step (exact HT.o _ _);refine wpQuiet_nil ?_;intro _ hw';obtain⟨⟨dq,osq⟩,Uo⟩:=hw';subst Uo;have G0:=below_regrown w5 dq osq;have HS8:=bD (yx.o.below G0);have HM8:=bD (Br.o.below G0);have HK8:=bD (Gz.o.below G0);have HP8:=bD (M3.o.below G0);have HX8:=bD (HX.o.below G0 HX.o.lt);clear G0 HT m0 m1 m2 m3 m4 m5 fx x0 x5 x6 p0 p1 p2 yx Br Gz M3 HX;have yx:=HS8;have Br:=HM8;have Gz:=HK8;have M3:=HP8;have HX:=HX8;clear HS8 HM8 HK8 HP8 HX8;simp only at yx Br Gz M3 HX|-;generalize Go.Sort.grow (redrawn w5 dq) osq=w9 at*;obtain⟨w5,rfl⟩:∃w5:World,w5=w9:=⟨_,rfl⟩;have x0:=HX.o.cell 0;have x5:=HX.o.cell 5;have x6:=HX.o.cell 6;obtain⟨p0,p1,p2⟩:=nw yx.o.hP;simp[dp]at x0 x5 x6 p0 p1 p2;by_cases hte:te=0
    ·subst hte;rw[aa (by simp)]at wA;cases tb with
     |true=>
      have ny:Hy (Z=cT D tk sub n [] y.bE c):=by rw[Hy,wA.o];rfl
      clear wA;have mE:=bD (H1.o _ _ sub n c w5 Br.o M3.o Gz.o HN.o);generalize cT D tk sub n [] y.bE c=O at*;obtain⟨r,c2⟩:=O;go_wp2_with fail;refine mE.o.mono ?_;rintro e w6 ⟨rfl,J0,YK,YL⟩;have eH:=bD (yx.o.grown J0);have kG:=bD YK;have uG:Hy (r.out.length<=100000000):=YL;clear J0 YK YL yx Br Gz M3 x0 x5 x6 p0 p1 p2 mE HX;simp only[fo.val];obtain⟨r0,r1,r2,r3⟩:=lG eH.o.hR;simp[bI]at r0 r1 r2 r3;obtain⟨f0,f1,f2,f3⟩:=qm eH.o.hR;go_wp2_with fail;obtain⟨q1,q2⟩:=eH.o.fin kG.o (z:=Z) ny.o uG.o;change bodyPost _ _ _ _ _ (dO w6 (P+1+1) r);exact ag (na rfl q1) rfl q2
     |false=>
      have ny:Hy (Z=fQ D tk sub n (x.bE.drop (k+1)) c):=by rw[Hy,wA.o];rfl
      clear wA;go_wp2_with fail;go_roundw
      case rel=>exact⟨k+1,bW,by go_num,ny.o,yx.o,Br.o⟩
      case measure=>simp[intOf];omega
    ·have bte:(te !=0)=true:=by rw[aQ];exact hte
     have ny:Hy (Z=(cF [] te,c)):=by rw[Hy,wA.o,ae hte]
     clear wA hte;go_wp2_with fail;refine(iA [] te w5).mono ?_;rintro e w6 ⟨rfl,mo⟩;have eH:=bD (yx.o.below mo);have kG:=bD (Br.o.below mo);clear mo yx Br Gz M3 x0 x5 x6 p0 p1 p2 HX;simp only[fo.val,cF];obtain⟨r0,r1,r2,r3⟩:=lG eH.o.hR;simp[bI]at r0 r1 r2 r3;obtain⟨f0,f1,f2,f3⟩:=qm eH.o.hR;go_wp2_with fail;obtain⟨q1,q2⟩:=eH.o.fin kG.o (z:=Z) ny.o (by simp[cF]);change bodyPost _ _ _ _ _ (dO w6 (P+1+1) (cF [] te));exact ag (na rfl q1) rfl q2
  ·have ln:k=x.bE.length:=by omega
   have ny:Hy (Z=(dL [],c)):=by rw[Hy,HZ.o,ln,bu,fQ]
   have eH:=HS;have kG:=HM;subst ln;clear HZ HS HM;obtain⟨r0,r1,r2,r3⟩:=lG eH.o.hR;simp[bI]at r0 r1 r2 r3;obtain⟨f0,f1,f2,f3⟩:=qm eH.o.hR;go_wp2_with fail;obtain⟨q1,q2⟩:=eH.o.fin kG.o (z:=Z) ny.o (by simp[dL]);change bodyPost _ _ _ _ _ (dO wr (P+1+1) (dL []));exact ag (na rfl q1) rfl q2
end Go.Proofs.YtejafaaihodehaaGreatDoor
