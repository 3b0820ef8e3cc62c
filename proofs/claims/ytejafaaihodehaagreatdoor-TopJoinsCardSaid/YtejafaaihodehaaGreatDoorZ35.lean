/- Part 35. -/
import Derived.Test.YtejafaaihodehaaGreatDoorZ30
import Derived.Test.YtejafaaihodehaaGreatDoorZ34
set_option linter.all false
set_option maxRecDepth 100000
set_option maxHeartbeats 8000000
namespace Go.Proofs.YtejafaaihodehaaGreatDoor
open Go Go.RowKit Tryz
theorem jg{w:World}{X:Nat}{tmps:Array Value}{r:fo}(h4:tmps[10]?.getD undef=.pointer (some ⟨X,0,none⟩))(B0:bL w X 31 (bI r)):
 (results f69 tmps).run prog w=.ok r.val w:=by
 obtain⟨a0,a1,a2,a3⟩:=lG B0;simp[bI]at a0 a1 a2 a3;simp[results,results69,go_sem,h4,a0,a1,a2,a3,fo.val]
theorem kT{w:World}{X:Nat}{tmps:Array Value}{r:fo}(h4:tmps[10]?.getD undef=.pointer (some ⟨X,0,none⟩))(B0:bL w X 31 (bI r)):
 (results f38 tmps).run prog w=.ok r.val w:=by
 obtain⟨a0,a1,a2,a3⟩:=lG B0;simp[bI]at a0 a1 a2 a3;simp[results,results38,go_sem,h4,a0,a1,a2,a3,fo.val]
structure Jd(w W:World)(M P:Nat)(base:Bt)(pv:Value)(fU:Int)(x:Elem)(kv:Value):Prop where
 hP:bL W P 70 #[.string (bs base),pv,.int .i64 fU]
 hE:bL W (P+1) 62 (dp x kv).toArray
 hR:bL W (P+1+1) 31 (bI fy)
 g:w.grownBy W (some M)
 Gx:M<w.heap.size
 Ob:w.heap.size=P
section
variable {w W W':World} {M P:Nat} {base:Bt} {pv kv:Value} {fU:Int} {x:Elem}
theorem Jd.below(h:Jd w W M P base pv fU x kv)(hb:Below W.heap.size W W'):Jd w W' M P base pv fU x kv:=
 ⟨h.hP.below hb h.hP.lt,h.hE.below hb h.hE.lt,h.hR.below hb h.hR.lt,kI h.g hb,h.Gx,h.Ob⟩
theorem Jd.grown(h:Jd w W M P base pv fU x kv)(hg:W.grownBy W' (some M)):Jd w W' M P base pv fU x kv:=by
 have h1:=h.Gx;have h2:=h.Ob;exact⟨h.hP.grown hg (by simp;omega),h.hE.grown hg (by simp;omega),h.hR.grown hg (by simp;omega),bU h.g hg,h1,h2⟩
theorem Jd.start(w:World)(hM:M<w.heap.size)(base:Bt)(pv:Value)(fU:Int)(x:Elem)(kv:Value):
 Jd w (((w.alloc (.cells #[.string (bs base),pv,.int .i64 fU] 70)).alloc (.cells (dp x kv).toArray 62)).alloc (.cells (bI fy) 31)) M w.heap.size base pv fU x kv:=by
 have h1:=bL.new w 70 #[.string (bs base),pv,.int .i64 fU];have h2:=bL.new (w.alloc (.cells #[.string (bs base),pv,.int .i64 fU] 70)) 62 (dp x kv).toArray;have h3:=bL.new ((w.alloc (.cells #[.string (bs base),pv,.int .i64 fU] 70)).alloc (.cells (dp x kv).toArray 62)) 31 (bI fy);rw[size_alloc]at h2;rw[size_alloc,size_alloc]at h3;exact⟨(h1.alloc _).alloc _,h2.alloc _,h3,fX (fX (fX (bR _ _) _) _) _,hM,rfl⟩
theorem Jd.jx{Y:Nat}(h:Jd w W M P base pv fU x kv)(hg:W.grownBy W' (some Y))(hY:P+1+1<Y):Jd w W' M P base pv fU x kv:=by
 have h2:=h.Ob;exact⟨h.hP.grown hg (by simp;omega),h.hE.grown hg (by simp;omega),h.hR.grown hg (by simp;omega),dR h.g hg (fun k hk=>.inr (by injection hk with hk;omega)),h.Gx,h2⟩
theorem Jd.fin{v:cK}{rv:Value}{cR:List gw}{z:fo × Nat}{r:fo}{c:Nat}(h:Jd w W M P base pv fU x kv)(hm:MK v rv cR M W c)(hz:z=(r,c))(hl:r.out.length<=100000000):
 bL (dO W (P+1+1) r) (P+1+1) 31 (bI r)/\jW v rv cR M w z (.returned r.val) (dO W (P+1+1) r):=
 ⟨jB h.hR r,jW.fin h.g hm h.Gx (by have:=h.Ob;omega) hz hl⟩
end
def Dw(x:Elem)(kv:Value):Value:=.agg #[.int .i64 x.kind,.string (bs x.text),.string (bs x.src),.string (bs x.jZ),.bool x.fp,.string (bs x.test),kv]
def Og(v:cK)(D:lq)(rv:Value)(M:Nat)(base:Bt)(el:List Elem)(fU:Int)(tk:Tk):Prop:=∀(pv:Value) (s:Bt) (c:Nat) (W:World),oX v D s->MK v rv D.cN M W c->GR W (fun k=>k≠M) (.row 7 (el.map Elem.gv)) [pv]->
 Calls prog 106 #[.pointer (some ⟨M,0,none⟩),.agg #[.string (bs base),pv,.int .i64 fU],.string (bs s)] W (jW v rv D.cN M W (tk s c))
theorem Lp(tk:Tk)(s a:Bt)(b:Bool)(c:Nat):kP tk s a b c=
 if(tk s c).1.state=2/\a≠[]then
  (if(tk a (tk s c).2).1.state=2/\b=true then(dL [],(tk a (tk s c).2).2)else(eF (tk a (tk s c).2).1,(tk a (tk s c).2).2))
 else(if(tk s c).1.state=2/\b=true then(dL [],(tk s c).2)else(eF (tk s c).1,(tk s c).2)):=by
 unfold kP;simp only;by_cases h:(tk s c).1.state=2/\a≠[]
 ·rw[ae h,ae h]
 ·rw[aa h,aa h]
theorem Dx(v:cK)(D:lq)(rv:Value)(M:Nat)(base:Bt)(el:List Elem)(fU:Int)(tk:Tk)(so:Og v D rv M base el fU tk)(pv kv:Value)(x:Elem)(sub:Bool)(n c:Nat)(w:World)
 (hx:oX v D x.src/\(x.jZ≠[]->oX v D x.jZ)) (hm:MK v rv D.cN M w c) (qX:GR w (fun k=>k≠M) (.row 7 (el.map Elem.gv)) [pv]) (NK:∃A nn cc,kv=.slice A nn cc):
 Calls prog 69 #[.pointer (some ⟨M,0,none⟩),.agg #[.string (bs base),pv,.int .i64 fU],Dw x kv,.bool sub,.int .i64 (n:Int)] w (jW v rv D.cN M w (kP tk x.src x.jZ x.fp c)):=by
 obtain⟨Ap,cp,rfl,-⟩:=dW qX;obtain⟨Ak,nk,ck,rfl⟩:=NK;have HZ:=bD (Lp tk x.src x.jZ x.fp c);generalize kP tk x.src x.jZ x.fp c=Z at*;have mq:=bD so;have HX:=bD hx;have cg:Below w.heap.size w (((w.alloc (.cells #[.string (bs base),.slice Ap el.length cp,.int .i64 fU] 70)).alloc (.cells (dp x (.slice Ak nk ck)).toArray 62)).alloc (.cells (bI fy) 31)):=
  ((cU _ _).alloc (by rw[size_alloc];omega) _).alloc (by rw[size_alloc,size_alloc];omega) _
 have HS:=bD (Jd.start w hm.iz.lt base (.slice Ap el.length cp) fU x (.slice Ak nk ck));have pD:=bD (hm.below cg);have E8:=bD (qX.below cg);clear so hx hm qX cg;simp only[Dw];go_enter func69,ntmps69;go_upto_region 1 with(fail)
 change Code.wp _ _ _ _ (((w.alloc (.cells #[.string (bs base),.slice Ap el.length cp,.int .i64 fU] 70)).alloc (.cells (dp x (.slice Ak nk ck)).toArray 62)).alloc (.cells (bI fy) 31));generalize((w.alloc (.cells #[.string (bs base),.slice Ap el.length cp,.int .i64 fU] 70)).alloc (.cells (dp x (.slice Ak nk ck)).toArray 62)).alloc (.cells (bI fy) 31)=w0 at*;generalize w.heap.size=P at*;obtain⟨p0,p1,p2⟩:=nw HS.o.hP;have e2:=HS.o.hE.cell 2;simp[dp]at p0 p1 p2 e2;go_wp2_with fail;refine(mq.o _ x.src c w0 HX.o.1 pD.o E8.o).mono ?_;rintro e w1 ⟨rfl,mn,M0,tD⟩;have mM:=bD (HS.o.grown mn);have Q8:=bD M0;have E9:=bD (E8.o.grown mn (fun k h=>h));have Lm:=bD tD;clear mn M0 tD HS pD E8 p0 p1 p2 e2;generalize tk x.src c=TA at*;obtain⟨ra,ca⟩:=TA;simp only[fo.val]at*;have cg:=(cU w1 (.cells (bI ra) 31));have hY:=bL.new w1 31 (bI ra);have uj:=bD (mM.o.below cg);have Cf:=bD (Q8.o.below cg);have j6:=bD (E9.o.below cg);have Lq:P+1+1<w1.heap.size:=mM.o.hR.lt;go_upto_region 2 with(fail)
 change Code.wp _ _ _ _ (w1.alloc (.cells (bI ra) 31));generalize w1.alloc (.cells (bI ra) 31)=w2 at*;generalize w1.heap.size=Y at*;have HY:=bD hY;have Re:=bD Lq;clear cg hY Lq mM Q8 E9;obtain⟨y0,y1,y2,y3⟩:=lG HY.o;simp[bI]at y0 y1 y2 y3;have e3:=uj.o.hE.cell 3;have e4:=uj.o.hE.cell 4;simp[dp]at e3 e4;by_cases s2:ra.state=2
 ·obtain⟨ao,az,ab,aw⟩:=ra;have s2:az=2:=s2;subst s2;simp only at y0 y1 y2 y3 Lm;have b2:((2:Int)==2)=true:=rfl;by_cases ha:x.jZ=[]
  ·have q1:((bs x.jZ).toList !=[])=false:=by rw[bQ,ha];rfl
   have q2:(bs x.jZ).toList=[]:=by rw[bQ,ha]
   have q3:(bs x.jZ).toList.isEmpty=true:=by rw[q2];rfl
   have ny:Hy (Z=if(2:Int)=2/\x.fp=true then(dL [],ca)else(eF ⟨ao,2,ab,aw⟩,ca)):=by rw[Hy,HZ.o,aa (fun h=>h.2 ha)]
   have eH:=uj;have kG:=Cf;have uG:=Lm;clear HZ ha uj Cf Lm;cases GJ:x.fp with
   |true=>
    rw[GJ]at e4;have Aw:Hy (Z=(dL [],ca)):=by rw[Hy,ny.o,ae ⟨rfl,GJ⟩]
    clear ny GJ;obtain⟨r0,r1,r2,r3⟩:=lG eH.o.hR;simp[bI]at r0 r1 r2 r3;obtain⟨f0,f1,f2,f3⟩:=qm eH.o.hR;go_wp2_with fail;obtain⟨q1,q2⟩:=eH.o.fin kG.o (z:=Z) Aw.o (by simp[dL]);change bodyPost _ _ _ _ _ (dO w2 (P+1+1) (dL []));exact ag (jg rfl q1) rfl q2
   |false=>
    rw[GJ]at e4;have Aw:Hy (Z=(eF (⟨ao,2,ab,aw⟩:fo),ca)):=by rw[Hy,ny.o,aa (fun h=>by rw[GJ]at h;cases h.2)]
    clear ny GJ;go_wp2_with fail;refine(jV (⟨ao,2,ab,aw⟩:fo) w2).mono ?_;rintro e w9 ⟨rfl,fq⟩;have Ue:=bD (eH.o.below fq);have Uf:=bD (kG.o.below fq);have HL9:=bD (oD (⟨ao,2,ab,aw⟩:fo) uG.o);clear fq eH kG;have eH:=Ue;have kG:=Uf;clear Ue Uf;generalize eF (⟨ao,2,ab,aw⟩:fo)=r9 at*;simp only[fo.val];obtain⟨r0,r1,r2,r3⟩:=lG eH.o.hR;simp[bI]at r0 r1 r2 r3;obtain⟨f0,f1,f2,f3⟩:=qm eH.o.hR;go_wp2_with fail;obtain⟨q1,q2⟩:=eH.o.fin kG.o (z:=Z) Aw.o HL9.o;change bodyPost _ _ _ _ _ (dO w9 (P+1+1) r9);exact ag (jg rfl q1) rfl q2
  ·have q1:((bs x.jZ).toList !=[])=true:=by rw[bQ,aQ];exact ha
   have q2:¬(bs x.jZ).toList=[]:=by rw[bQ];exact ha
   have q3:(bs x.jZ).toList.isEmpty=false:=by rw[bQ];cases h:x.jZ with|nil=>exact aX h ha|cons _ _=>rfl
   have gu:Hy (Z=if(tk x.jZ ca).1.state=2/\x.fp=true then(dL [],(tk x.jZ ca).2)else(eF (tk x.jZ ca).1,(tk x.jZ ca).2)):=by rw[Hy,HZ.o,ae ⟨rfl,ha⟩]
   have P3:=bD (HX.o.2 ha);obtain⟨p0,p1,p2⟩:=nw uj.o.hP;simp at p0 p1 p2;clear HZ ha;go_wp2_with fail;refine(mq.o _ x.jZ ca w2 P3.o Cf.o j6.o).mono ?_;rintro e w3 ⟨rfl,pa,hm3,QH⟩;have MZ:=bD (uj.o.grown pa);have HM3:=bD hm3;have uG:=bD QH;have HY3:=bD (HY.o.grown pa (by have h1:=uj.o.Gx;have h2:=uj.o.Ob;have h3:=Re.o;simp;omega));clear pa hm3 QH uj Cf j6 p0 p1 p2 e3 e4 y0 y1 y2 y3 b2 q1 q2 q3 HY;generalize tk x.jZ ca=TB at*;obtain⟨rb,cb⟩:=TB;simp only[fo.val]at*;obtain⟨y0,y1,y2,y3⟩:=lG HY3.o;simp[bI]at y0 y1 y2 y3;obtain⟨g0,g1,g2,g3⟩:=qm HY3.o;go_upto_region 4 with(fail)
   have Yd:=bD (jB HY3.o rb);have pc:=xw w3 Y rb;have SV:=bD (HM3.o.jx pc (by have h1:=MZ.o.Gx;have h2:=MZ.o.Ob;have h3:=Re.o;omega));have Ka:=bD (MZ.o.jx pc Re.o);change Code.wp _ _ _ _ (dO w3 Y rb);generalize dO w3 Y rb=w4 at*;clear pc HY3 HM3 MZ y0 y1 y2 y3 g0 g1 g2 g3;have eH:=Ka;have kG:=SV;clear Ka SV;obtain⟨y0,y1,y2,y3⟩:=lG Yd.o;simp[bI]at y0 y1 y2 y3;have e4:=eH.o.hE.cell 4;simp[dp]at e4;by_cases s2:rb.state=2
   ·obtain⟨bo,bz,bb,bw⟩:=rb;have s2:bz=2:=s2;subst s2;simp only at y0 y1 y2 y3 uG;have b2:((2:Int)==2)=true:=rfl;cases GJ:x.fp with
    |true=>
     rw[GJ]at e4;have Aw:Hy (Z=(dL [],cb)):=by rw[Hy,gu.o,ae ⟨rfl,GJ⟩]
     clear gu GJ;obtain⟨r0,r1,r2,r3⟩:=lG eH.o.hR;simp[bI]at r0 r1 r2 r3;obtain⟨f0,f1,f2,f3⟩:=qm eH.o.hR;go_wp2_with fail;obtain⟨q1,q2⟩:=eH.o.fin kG.o (z:=Z) Aw.o (by simp[dL]);change bodyPost _ _ _ _ _ (dO w4 (P+1+1) (dL []));exact ag (jg rfl q1) rfl q2
    |false=>
     rw[GJ]at e4;have Aw:Hy (Z=(eF (⟨bo,2,bb,bw⟩:fo),cb)):=by rw[Hy,gu.o,aa (fun h=>by rw[GJ]at h;cases h.2)]
     clear gu GJ;go_wp2_with fail;refine(jV (⟨bo,2,bb,bw⟩:fo) w4).mono ?_;rintro e w9 ⟨rfl,fq⟩;have Ue:=bD (eH.o.below fq);have Uf:=bD (kG.o.below fq);have HL9:=bD (oD (⟨bo,2,bb,bw⟩:fo) uG.o);clear fq eH kG;have eH:=Ue;have kG:=Uf;clear Ue Uf;generalize eF (⟨bo,2,bb,bw⟩:fo)=r9 at*;simp only[fo.val];obtain⟨r0,r1,r2,r3⟩:=lG eH.o.hR;simp[bI]at r0 r1 r2 r3;obtain⟨f0,f1,f2,f3⟩:=qm eH.o.hR;go_wp2_with fail;obtain⟨q1,q2⟩:=eH.o.fin kG.o (z:=Z) Aw.o HL9.o;change bodyPost _ _ _ _ _ (dO w9 (P+1+1) r9);exact ag (jg rfl q1) rfl q2
   ·have b2:(rb.state==2)=false:=by rw[ai];exact s2
    have Aw:Hy (Z=(eF rb,cb)):=by rw[Hy,gu.o,aa (fun h=>s2 h.1)]
    clear gu s2;go_wp2_with fail;refine(jV rb w4).mono ?_;rintro e w9 ⟨rfl,fq⟩;have Ue:=bD (eH.o.below fq);have Uf:=bD (kG.o.below fq);have HL9:=bD (oD rb uG.o);clear fq eH kG;have eH:=Ue;have kG:=Uf;clear Ue Uf;generalize eF rb=r9 at*;simp only[fo.val];obtain⟨r0,r1,r2,r3⟩:=lG eH.o.hR;simp[bI]at r0 r1 r2 r3;obtain⟨f0,f1,f2,f3⟩:=qm eH.o.hR;go_wp2_with fail;obtain⟨q1,q2⟩:=eH.o.fin kG.o (z:=Z) Aw.o HL9.o;change bodyPost _ _ _ _ _ (dO w9 (P+1+1) r9);exact ag (jg rfl q1) rfl q2
 ·have b2:(ra.state==2)=false:=by rw[ai];exact s2
  have Aw:Hy (Z=(eF ra,ca)):=by rw[Hy,HZ.o,aa (fun h=>s2 h.1),aa (fun h=>s2 h.1)]
  have eH:=uj;have kG:=Cf;have uG:=Lm;clear HZ s2 uj Cf Lm;go_wp2_with fail;refine(jV ra w2).mono ?_;rintro e w9 ⟨rfl,fq⟩;have Ue:=bD (eH.o.below fq);have Uf:=bD (kG.o.below fq);have HL9:=bD (oD ra uG.o);clear fq eH kG;have eH:=Ue;have kG:=Uf;clear Ue Uf;generalize eF ra=r9 at*;simp only[fo.val];obtain⟨r0,r1,r2,r3⟩:=lG eH.o.hR;simp[bI]at r0 r1 r2 r3;obtain⟨f0,f1,f2,f3⟩:=qm eH.o.hR;go_wp2_with fail;obtain⟨q1,q2⟩:=eH.o.fin kG.o (z:=Z) Aw.o HL9.o;change bodyPost _ _ _ _ _ (dO w9 (P+1+1) r9);exact ag (jg rfl q1) rfl q2
def Bs(v:cK)(D:lq)(rv:Value)(M:Nat)(base:Bt)(el:List Elem)(fU:Int)(tk:Tk)(l:List Elem):Prop:=∀(pv lv:Value) (sub:Bool) (n c:Nat) (W:World),MK v rv D.cN M W c->
 GR W (fun k=>k≠M) (.row 7 (el.map Elem.gv)) [pv]->GR W (fun k=>k≠M) (.row 7 (l.map Elem.gv)) [lv]->n<=20000->
 Calls prog 23 #[.pointer (some ⟨M,0,none⟩),.agg #[.string (bs base),pv,.int .i64 fU],lv,.bool sub,.int .i64 (n:Int)] W (jW v rv D.cN M W (cT D tk sub n [] l c))
def YI(v:cK)(D:lq)(rv:Value)(M:Nat)(base:Bt)(el:List Elem)(fU:Int)(tk:Tk)(x:Elem):Prop:=∀(pv kv:Value) (sub:Bool) (n c:Nat) (W:World),MK v rv D.cN M W c->
 GR W (fun k=>k≠M) (.row 7 (el.map Elem.gv)) [pv]->GR W (fun k=>k≠M) (.row 7 (x.bE.map Elem.gv)) [kv]->n<=20000->
 Calls prog 38 #[.pointer (some ⟨M,0,none⟩),.agg #[.string (bs base),pv,.int .i64 fU],Dw x kv,.bool sub,.int .i64 (n:Int)] W (jW v rv D.cN M W (pR D tk sub n x c))
def Xd(f:Nat)(v:cK)(D:lq)(rv:Value)(M:Nat)(base:Bt)(el:List Elem)(fU:Int)(x:Elem)(F:Bool->Nat->Nat->fo × Nat):Prop:=∀(pv kv:Value) (sub:Bool) (n c:Nat) (W:World),MK v rv D.cN M W c->
 GR W (fun k=>k≠M) (.row 7 (el.map Elem.gv)) [pv]->GR W (fun k=>k≠M) (.row 7 (x.bE.map Elem.gv)) [kv]->n<=20000->
 Calls prog f #[.pointer (some ⟨M,0,none⟩),.agg #[.string (bs base),pv,.int .i64 fU],Dw x kv,.bool sub,.int .i64 (n:Int)] W (jW v rv D.cN M W (F sub n c))
theorem xH(v:cK)(D:lq)(rv:Value)(M:Nat)(base:Bt)(el:List Elem)(fU:Int)(tk:Tk)(so:Og v D rv M base el fU tk)(x:Elem)(hx:Q5 v D x)
 (ib:x.kind=10->Bs v D rv M base el fU tk x.bE)
 (hch:x.kind=7->Xd 71 v D rv M base el fU x (fun sub n c=>fQ D tk sub n x.bE c))
 (htr:x.kind=4->Xd 72 v D rv M base el fU x (fun sub n c=>um D tk sub x.bE c)):YI v D rv M base el fU tk x:=by
 intro pv kv sub n c w hm qX NK hn;obtain⟨Ap,cp,rfl,-⟩:=dW qX;obtain⟨Ak,ck,rfl,-⟩:=dW NK;have HZ:=bD (IA D tk sub n x c);generalize pR D tk sub n x c=Z at*;obtain⟨zG,tp,xZ,tS,E4,Kb,YJ⟩:=(xF x).1 hx;have Gq:=bD zG;have iL:=bD tp;have HIN:=bD (fun h pv kv sub n c w=>Dx v D rv M base el fU tk so pv kv x sub n c w (xZ h));have Ra:=bD ib;have HCH:=bD hch;have HTR:=bD htr;have tQ:(n:Int)<=20000:=by omega
 have HN:=bD hn;have cg:Below w.heap.size w (((w.alloc (.cells #[.string (bs base),.slice Ap el.length cp,.int .i64 fU] 70)).alloc (.cells (dp x (.slice Ak x.bE.length ck)).toArray 62)).alloc (.cells (bI fy) 31)):=
  ((cU _ _).alloc (by rw[size_alloc];omega) _).alloc (by rw[size_alloc,size_alloc];omega) _
 have HS:=bD (Jd.start w hm.iz.lt base (.slice Ap el.length cp) fU x (.slice Ak x.bE.length ck));have pD:=bD (hm.below cg);have E8:=bD (qX.below cg);have VR:=bD (NK.below cg);clear so hx hm qX NK cg ib hch htr zG tp xZ tS E4 Kb YJ hn;simp only[Dw];go_enter func38,ntmps38;go_upto_region 1 with(fail)
 change Code.wp _ _ _ _ (((w.alloc (.cells #[.string (bs base),.slice Ap el.length cp,.int .i64 fU] 70)).alloc (.cells (dp x (.slice Ak x.bE.length ck)).toArray 62)).alloc (.cells (bI fy) 31));generalize((w.alloc (.cells #[.string (bs base),.slice Ap el.length cp,.int .i64 fU] 70)).alloc (.cells (dp x (.slice Ak x.bE.length ck)).toArray 62)).alloc (.cells (bI fy) 31)=w0 at*;generalize w.heap.size=P at*;obtain⟨p0,p1,p2⟩:=nw HS.o.hP;obtain⟨e0,e1,e2,e3,e4,e5,e6⟩:=ph HS.o.hE;simp[dp]at p0 p1 p2 e0 e1 e2 e3 e4 e5 e6;by_cases k1:x.kind=1
 ·have b1:(x.kind==1)=true:=by rw[k1];rfl
  have gu:Hy (Z=(dL (if sub then D.sub x.text else x.text),c)):=by rw[Hy,HZ.o,ae k1]
  clear k1 HZ;cases sub with
  |true=>
   obtain⟨c0,c1,c2,c3,c4,c5⟩:=nB pD.o.iz;simp[nT]at c0 c1 c2 c3 c4 c5;go_upto_region 6 with(fail)
   refine wp_region_still_tail 6 (by kernel_rfl) (by kernel_rfl) ?_;change wpStill _ _ (World.drew w0) (fun a'=>wpList _ _ _ _ a' (World.drew w0)) _ _;simp only[List.take_succ_cons,List.take_zero,List.drop_succ_cons,bm]
   repeat still_step
   refine wpStill_nil ?_;have Pw:eK w0.drew:=pD.o.pP.below (aF _ _).drew;have HGD:=bD Pw;clear Pw;go_wp2_with fail;refine(iL.o.2 _ HGD.o).mono ?_;rintro e w2 ⟨rfl,cu⟩;have cu:Below w0.heap.size w0 w2:=(aF _ _).drew.trans cu;have eH:=bD (HS.o.below cu);have kG:=bD (pD.o.below cu);clear cu HS pD E8 VR p0 p1 p2 e0 e1 e2 e3 e4 e5 e6 c0 c1 c2 c3 c4 c5;obtain⟨r0,r1,r2,r3⟩:=lG eH.o.hR;simp[bI]at r0 r1 r2 r3;obtain⟨f0,f1,f2,f3⟩:=qm eH.o.hR;go_wp2_with fail;obtain⟨q1,q2⟩:=eH.o.fin kG.o (z:=Z) gu.o (show(D.sub x.text).length<=100000000 by have:=iL.o.1;omega);change bodyPost _ _ _ _ _ (dO w2 (P+1+1) (dL (D.sub x.text)));exact ag (kT rfl q1) rfl q2
  |false=>
   have eH:=HS;have kG:=pD;clear HS pD E8 VR;obtain⟨r0,r1,r2,r3⟩:=lG eH.o.hR;simp[bI]at r0 r1 r2 r3;obtain⟨f0,f1,f2,f3⟩:=qm eH.o.hR;go_wp2_with fail;obtain⟨q1,q2⟩:=eH.o.fin kG.o (z:=Z) gu.o (show x.text.length<=100000000 by have:=Gq.o;omega);change bodyPost _ _ _ _ _ (dO w0 (P+1+1) (dL x.text));exact ag (kT rfl q1) rfl q2
 have b1:(x.kind==1)=false:=by rw[ai];exact k1
 by_cases Ik:x.kind=10
 ·have b10:(x.kind==10)=true:=by rw[Ik];rfl
  have gu:Hy (Z=cT D tk true n [] x.bE c):=by rw[Hy,HZ.o,aa k1,ae Ik]
  have mE:=bD (Ra.o Ik _ _ true n c w0 pD.o E8.o VR.o HN.o);rw[<-gu.o]at mE;clear k1 Ik HZ gu;go_wp2_with fail;refine mE.o.mono ?_;rintro e w2 ⟨rfl,xX,Ug,Uh⟩;have eH:=bD (HS.o.grown xX);have kG:=bD Ug;have uG:=bD Uh;clear xX Ug Uh HS pD E8 VR p0 p1 p2 e0 e1 e2 e3 e4 e5 e6;obtain⟨r9,c9⟩:=Z;simp only[fo.val]at*;obtain⟨r0,r1,r2,r3⟩:=lG eH.o.hR;simp[bI]at r0 r1 r2 r3;obtain⟨f0,f1,f2,f3⟩:=qm eH.o.hR;go_wp2_with fail;obtain⟨q1,q2⟩:=eH.o.fin kG.o (z:=(r9,c9)) rfl uG.o;change bodyPost _ _ _ _ _ (dO w2 (P+1+1) r9);exact ag (kT rfl q1) rfl q2
 have b10:(x.kind==10)=false:=by rw[ai];exact Ik
 by_cases k7:x.kind=7
 ·have b7:(x.kind==7)=true:=by rw[k7];rfl
  have gu:Hy (Z=fQ D tk sub n x.bE c):=by rw[Hy,HZ.o,aa k1,aa Ik,ae k7]
  have mE:=bD (HCH.o k7 _ _ sub n c w0 pD.o E8.o VR.o HN.o);simp only[Dw]at mE;rw[<-gu.o]at mE;clear k1 Ik k7 HZ gu;go_wp2_with fail;refine mE.o.mono ?_;rintro e w2 ⟨rfl,xX,Ug,Uh⟩;have eH:=bD (HS.o.grown xX);have kG:=bD Ug;have uG:=bD Uh;clear xX Ug Uh HS pD E8 VR p0 p1 p2 e0 e1 e2 e3 e4 e5 e6;obtain⟨r9,c9⟩:=Z;simp only[fo.val]at*;obtain⟨r0,r1,r2,r3⟩:=lG eH.o.hR;simp[bI]at r0 r1 r2 r3;obtain⟨f0,f1,f2,f3⟩:=qm eH.o.hR;go_wp2_with fail;obtain⟨q1,q2⟩:=eH.o.fin kG.o (z:=(r9,c9)) rfl uG.o;change bodyPost _ _ _ _ _ (dO w2 (P+1+1) r9);exact ag (kT rfl q1) rfl q2
 have b7:(x.kind==7)=false:=by rw[ai];exact k7
 by_cases k4:x.kind=4
 ·have b4:(x.kind==4)=true:=by rw[k4];rfl
  have gu:Hy (Z=um D tk sub x.bE c):=by rw[Hy,HZ.o,aa k1,aa Ik,aa k7,ae k4]
  have mE:=bD (HTR.o k4 _ _ sub n c w0 pD.o E8.o VR.o HN.o);simp only[Dw]at mE;rw[<-gu.o]at mE;clear k1 Ik k7 k4 HZ gu;go_wp2_with fail;refine mE.o.mono ?_;rintro e w2 ⟨rfl,xX,Ug,Uh⟩;have eH:=bD (HS.o.grown xX);have kG:=bD Ug;have uG:=bD Uh;clear xX Ug Uh HS pD E8 VR p0 p1 p2 e0 e1 e2 e3 e4 e5 e6;obtain⟨r9,c9⟩:=Z;simp only[fo.val]at*;obtain⟨r0,r1,r2,r3⟩:=lG eH.o.hR;simp[bI]at r0 r1 r2 r3;obtain⟨f0,f1,f2,f3⟩:=qm eH.o.hR;go_wp2_with fail;obtain⟨q1,q2⟩:=eH.o.fin kG.o (z:=(r9,c9)) rfl uG.o;change bodyPost _ _ _ _ _ (dO w2 (P+1+1) r9);exact ag (kT rfl q1) rfl q2
 have b4:(x.kind==4)=false:=by rw[ai];exact k4
 by_cases k2:x.kind=2
 ·have b2:(x.kind==2)=true:=by rw[k2];rfl
  have gu:Hy (Z=kP tk x.src x.jZ x.fp c):=by rw[Hy,HZ.o,aa k1,aa Ik,aa k7,aa k4,ae k2]
  have mE:=bD (HIN.o k2 _ (.slice Ak x.bE.length ck) sub n c w0 pD.o E8.o ⟨_,_,_,rfl⟩);simp only[Dw]at mE;rw[<-gu.o]at mE;clear k1 Ik k7 k4 k2 HZ gu;go_wp2_with fail;refine mE.o.mono ?_;rintro e w2 ⟨rfl,xX,Ug,Uh⟩;have eH:=bD (HS.o.grown xX);have kG:=bD Ug;have uG:=bD Uh;clear xX Ug Uh HS pD E8 VR p0 p1 p2 e0 e1 e2 e3 e4 e5 e6;obtain⟨r9,c9⟩:=Z;simp only[fo.val]at*;obtain⟨r0,r1,r2,r3⟩:=lG eH.o.hR;simp[bI]at r0 r1 r2 r3;obtain⟨f0,f1,f2,f3⟩:=qm eH.o.hR;go_wp2_with fail;obtain⟨q1,q2⟩:=eH.o.fin kG.o (z:=(r9,c9)) rfl uG.o;change bodyPost _ _ _ _ _ (dO w2 (P+1+1) r9);exact ag (kT rfl q1) rfl q2
 have b2:(x.kind==2)=false:=by rw[ai];exact k2
 have gu:Hy (Z=(dL [],c)):=by rw[Hy,HZ.o,aa k1,aa Ik,aa k7,aa k4,aa k2]
 have eH:=HS;have kG:=pD;clear k1 Ik k7 k4 k2 HZ HS pD E8 VR;obtain⟨r0,r1,r2,r3⟩:=lG eH.o.hR;simp[bI]at r0 r1 r2 r3;obtain⟨f0,f1,f2,f3⟩:=qm eH.o.hR;go_wp2_with fail;obtain⟨q1,q2⟩:=eH.o.fin kG.o (z:=Z) gu.o (by simp[dL]);change bodyPost _ _ _ _ _ (dO w0 (P+1+1) (dL []));exact ag (kT rfl q1) rfl q2
theorem uH{w:World}{X:Nat}{tmps:Array Value}{r:fo}(h4:tmps[10]?.getD undef=.pointer (some ⟨X,0,none⟩))(B0:bL w X 31 (bI r)):
 (results f23 tmps).run prog w=.ok r.val w:=by
 obtain⟨a0,a1,a2,a3⟩:=lG B0;simp[bI]at a0 a1 a2 a3;simp[results,results23,go_sem,h4,a0,a1,a2,a3,fo.val]
theorem J9.jx{w W W':World}{M P Y:Nat}{base:Bt}{pv:Value}{fU:Int}(h:J9 w W M P base pv fU)(hg:W.grownBy W' (some Y))(hY:P+1<Y):J9 w W' M P base pv fU:=by
 have h2:=h.Ob;exact⟨h.hP.grown hg (by simp;omega),h.hR.grown hg (by simp;omega),dR h.g hg (fun k hk=>.inr (by injection hk with hk;omega)),h.Gx,h2⟩
theorem Dy(v:cK)(D:lq)(rv:Value)(M:Nat)(base:Bt)(el:List Elem)(fU:Int)(tk:Tk)(l:List Elem)(tM:∀k (h:k<l.length),YI v D rv M base el fU tk l[k]):Bs v D rv M base el fU tk l:=by
 intro pv lv sub n c w hm qX Oc hn;obtain⟨Ap,cp,rfl,-⟩:=dW qX;obtain⟨Al,cl,rfl,zQ,mz,-⟩:=dW Oc;unfold maxLen at mz;have Oh:=bD tM;have E8:=bD qX;have HLV:=bD Oc;have HZ0:Hy (cT D tk sub n [] l c=cT D tk sub n [] (l.drop 0) c):=rfl;generalize cT D tk sub n [] l c=Z at*;have cg:Below w.heap.size w ((w.alloc (.cells #[.string (bs base),.slice Ap el.length cp,.int .i64 fU] 70)).alloc (.cells (bI fy) 31)):=(cU _ _).alloc (by rw[size_alloc];omega) _;have sN:=bD (J9.start w hm.iz.lt base (.slice Ap el.length cp) fU);have VS:=bD (hm.below cg);have tQ:(n:Int)<=20000:=by omega
 clear tM qX Oc hm cg;go_enter func23,ntmps23;go_upto_region 1 with(fail)
 change Code.wp _ _ _ _ ((w.alloc (.cells #[.string (bs base),.slice Ap el.length cp,.int .i64 fU] 70)).alloc (.cells (bI fy) 31));generalize(w.alloc (.cells #[.string (bs base),.slice Ap el.length cp,.int .i64 fU] 70)).alloc (.cells (bI fy) 31)=w0 at*;generalize Dz:w.heap.size=P at*;clear Dz;go_wp2_with fail;go_loopw [11,17] (fun ov i wr=>∃(k ck:Nat) (out:Bt),k<=l.length/\i=.int .i64 k/\ov=.string (bs out)/\n+out.length<=20000/\Hy (Z=cT D tk sub n out (l.drop k) ck)/\Hy (J9 w wr M P base (.slice Ap el.length cp) fU)/\Hy (MK v rv D.cN M wr ck))
  (fun _ i wr=>l.length-(intOf i).toNat)
 case atStart=>exact⟨0,c,[],ax _,rfl,rfl,by simpa using hn,HZ0.o,sN.o,VS.o⟩
 case round=>
  clear HZ0 sN VS;obtain⟨k,ck,out,hk,rfl,rfl,Px,HZ,HS,HM⟩:=hrel;have Tq:=bJ out;by_cases bW:k<l.length
  ·have hlw:=HLV.o.grown HS.o.g (fun k h=>h);have hpw:=E8.o.grown HS.o.g (fun k h=>h);obtain⟨A',c',WA,-,-,dS⟩:=dW hlw;injection WA with q1 q2 q3
   subst q1 q3;obtain⟨b,off,rfl,PO,dS⟩:=dS (by rintro rfl;simp at bW);obtain⟨Ak,Xe,hE⟩:=dS k bW;have e0:=hE.c0;have e1:=hE.c1;have e2:=hE.c2;have e3:=hE.c3;have e4:=hE.c4;have e5:=hE.c5;have e6:=hE.c6;have VK:=bD hE.bE;have HPW:=bD hpw;have H1:=bD (Oh.o k bW);have gu:Hy (Z=cT D tk sub n out (l[k]::l.drop (k+1)) ck):=by rw[Hy,HZ.o,aE bW]
   rw[jf]at gu;have nE:(0:Int)<=(k:Int):=by omega
   have fA:(k:Int)<(l.length:Int):=by omega
   clear hE dS hlw hpw q2 HZ PO;generalize l[k]=x at*;go_upto_region 5 with(fail)
   have hX:=bL.new wr 62 (dp x (.slice Ak x.bE.length Xe)).toArray;have cg:Below wr.heap.size wr (wr.alloc (.cells (dp x (.slice Ak x.bE.length Xe)).toArray 62)):=cU _ _;have yx:=bD (HS.o.below cg);have Br:=bD (HM.o.below cg);have Gz:=bD (VK.o.below cg);have M3:=bD (HPW.o.below cg);change Code.wp _ _ _ _ (wr.alloc (.cells (dp x (.slice Ak x.bE.length Xe)).toArray 62));generalize wr.alloc (.cells (dp x (.slice Ak x.bE.length Xe)).toArray 62)=w5 at*;clear e0 e1 e2 e3 e4 e5 e6 cg VK HPW HS HM;generalize wr.heap.size=X at*;obtain⟨x0,x1,x2,x3,x4,x5,x6⟩:=ph hX;obtain⟨p0,p1,p2⟩:=nw yx.o.hP;simp[dp]at x0 x1 x2 x3 x4 x5 x6 p0 p1 p2;clear hX;have mE:=bD (H1.o _ _ sub (n+out.length) ck w5 Br.o M3.o Gz.o Px);generalize pR D tk sub (n+out.length) x ck=O at*;obtain⟨r,c2⟩:=O;rw[Int.natCast_add]at mE;simp only[Dw]at mE;simp only at gu;have aD5:(n:Int)+(out.length:Int)<=20000:=by omega
   go_wp2_with fail;refine mE.o.mono ?_;rintro e w6 ⟨rfl,J0,YK,YL⟩;have xY:=bD (yx.o.grown J0);have HM6:=bD YK;have YL:r.out.length<=100000000:=YL;clear J0 YK yx Br Gz M3 x0 x1 x2 x3 x4 x5 x6 p0 p1 p2 mE;simp only[fo.val];have cg:=(cU w6 (.cells (bI r) 31));have hY:=bL.new w6 31 (bI r);have Fp:=bD (xY.o.below cg);have Ub:=bD (HM6.o.below cg);have Lq:P+1<w6.heap.size:=xY.o.hR.lt;go_upto_region 6 with(fail)
   change Code.wp _ _ _ _ (w6.alloc (.cells (bI r) 31));generalize w6.alloc (.cells (bI r) 31)=w7 at*;generalize w6.heap.size=Y at*;have HY:=bD hY;have Re:=bD Lq;clear cg hY Lq xY HM6;obtain⟨y0,y1,y2,y3⟩:=lG HY.o;simp[bI]at y0 y1 y2 y3;have hsr:=bJ r.out;by_cases P5:20000<n+out.length+r.out.length
   ·have Yo:(20000:Int)<(n:Int)+(out.length:Int)+(r.out.length:Int):=by omega
    have ny:Hy (Z=(cF out 2,c2)):=by rw[Hy,gu.o,ae P5]
    clear P5 gu;go_wp2_with fail;refine(iA out 2 w7).mono ?_;rintro e w9 ⟨rfl,fq⟩;have eH:=bD (Fp.o.below fq);have kG:=bD (Ub.o.below fq);have tU:Hy (out.length<=20000):=by rw[Hy];omega
    clear fq Fp Ub;simp only[fo.val,cF];obtain⟨r0,r1,r2,r3⟩:=lG eH.o.hR;simp[bI]at r0 r1 r2 r3;obtain⟨f0,f1,f2,f3⟩:=qm eH.o.hR;go_wp2_with fail;obtain⟨q1,q2⟩:=eH.o.fin kG.o (z:=Z) ny.o (show out.length<=100000000 by have:=tU.o;omega);change bodyPost _ _ _ _ _ (dO w9 (P+1) (cF out 2));exact ag (uH rfl q1) rfl q2
   ·have Yo:¬(20000:Int)<(n:Int)+(out.length:Int)+(r.out.length:Int):=by omega
    have ny:Hy (Z=if r.state≠0 then(r.ia out,c2)else cT D tk sub n (out++r.out) (l.drop (k+1)) c2):=by rw[Hy,gu.o,aa P5]
    have yw:(bs out).size+(bs r.out).size<=1000000:=by omega
    have hba:bs out++bs r.out=bs (out++r.out):=jc _ _;have QF:Hy (n+(out++r.out).length<=20000):=by rw[Hy,af];omega
    clear P5 gu;by_cases Bl:r.state=0
    ·have bst:(r.state !=0)=false:=by rw[Bl];rfl
     have wA:Hy (Z=cT D tk sub n (out++r.out) (l.drop (k+1)) c2):=by rw[Hy,ny.o,aa (by simpa using Bl)]
     have SX:=bD hba;clear Bl ny;go_wp2_with fail;go_roundw
     case rel=>exact⟨k+1,c2,out++r.out,bW,by go_num,rfl,QF.o,wA.o,Fp.o,Ub.o⟩
     case measure=>simp[intOf];omega
    ·have bst:(r.state !=0)=true:=by rw[aQ];exact Bl
     have wA:Hy (Z=(r.ia out,c2)):=by rw[Hy,ny.o,ae Bl]
     have g0:=HY.o.frozen 0;clear Bl ny;go_upto_region 11 with(fail)
     have Tc:w7.grownBy (w7.setCell ⟨Y,0,none⟩ (.string (bs (out++r.out)))) (some Y):=bF (bR _ _) (.inl rfl) _;have eH:=bD (Fp.o.jx Tc Re.o);have kG:=bD (Ub.o.jx Tc (by have h1:=Fp.o.Gx;have h2:=Fp.o.Ob;have h3:=Re.o;omega));have HY8:=bD (HY.o.cL 0 (.string (bs (out++r.out))));change Code.wp _ _ _ _ (w7.setCell ⟨Y,0,none⟩ (.string (bs (out++r.out))));generalize w7.setCell ⟨Y,0,none⟩ (.string (bs (out++r.out)))=w8 at*;clear Tc Fp Ub y0 y1 y2 y3 g0 HY;have y0:w8.cell? ⟨Y,0,none⟩=some (.string (bs (out++r.out))):=HY8.o.cell 0;have y1:w8.cell? ⟨Y,1,none⟩=some (.int .i64 r.state):=HY8.o.cell 1;have y2:w8.cell? ⟨Y,2,none⟩=some (.int .i64 r.bad):=HY8.o.cell 2;have y3:w8.cell? ⟨Y,3,none⟩=some (.string (bs r.qR)):=HY8.o.cell 3;obtain⟨r0,r1,r2,r3⟩:=lG eH.o.hR;simp[bI]at r0 r1 r2 r3;obtain⟨f0,f1,f2,f3⟩:=qm eH.o.hR;go_wp2_with fail;obtain⟨q1,q2⟩:=eH.o.fin kG.o (z:=Z) wA.o (show(out++r.out).length<=100000000 by have:=QF.o;omega);change bodyPost _ _ _ _ _ (dO w8 (P+1) (r.ia out));exact ag (uH rfl q1) rfl q2
  ·have ln:k=l.length:=by omega
   have ny:Hy (Z=(dL out,ck)):=by rw[Hy,HZ.o,ln,bu,cT]
   have eH:=HS;have kG:=HM;have tU:Hy (out.length<=20000):=by rw[Hy];omega
   subst ln;clear HZ HS HM;obtain⟨r0,r1,r2,r3⟩:=lG eH.o.hR;simp[bI]at r0 r1 r2 r3;obtain⟨f0,f1,f2,f3⟩:=qm eH.o.hR;go_wp2_with fail;obtain⟨q1,q2⟩:=eH.o.fin kG.o (z:=Z) ny.o (show out.length<=100000000 by have:=tU.o;omega);change bodyPost _ _ _ _ _ (dO wr (P+1) (dL out));exact ag (uH rfl q1) rfl q2
theorem Rf(v:cK)(D:lq)(rv:Value)(M:Nat)(hf:D.full=false)(wO:Ds v D):∀d,d<=4->∀l,Dt v D rv M d l:=by
 intro d;induction d with
 |zero=>
  intro hd l base el pv lv sub n c W Du tJ hl hm qX Oc hn;have so:Og v D rv M base el (4-((0:Nat):Int)) (gJ D 0 base el):=fun pv s c W hs hm qX=>sM v D rv M 0 hd (fun h=>aX rfl h) wO base el pv s c W Du tJ hs hm qX;have key:∀(k:Nat) (l:List Elem),fC l<=k->tL v D l->Bs v D rv M base el (4-((0:Nat):Int)) (gJ D 0 base el) l:=by
   intro k;induction k using Nat.strongRecOn with
   |ind k ih=>
    intro l hk hl;refine Dy v D rv M base el _ _ l fun j hj=>?_;have hx:=Au hl j hj;have tp:=(xF _).1 hx;refine xH v D rv M base el _ _ so l[j] hx (fun _=>ih (fC l[j].bE) ?_ _ (dv _) tp.2.2.2.2.2.2) (fun h=>?_) (fun h=>?_)
    ·have h1:=nU hj;have h2:=j8 l[j];omega
    ·have:=(tp.2.2.2.2.2.1 h).1;rw[hf]at this;cases this
    ·have:=(tp.2.2.2.2.1 h).1;rw[hf]at this;cases this
  exact key _ l (dv _) hl pv lv sub n c W hm qX Oc hn
 |succ d ihd=>
  intro hd l base el pv lv sub n c W Du tJ hl hm qX Oc hn;have so:Og v D rv M base el (4-((d+1:Nat):Int)) (gJ D (d+1) base el):=fun pv s c W hs hm qX=>sM v D rv M (d+1) hd (fun _ l=>ihd (by omega) l) wO base el pv s c W Du tJ hs hm qX;have key:∀(k:Nat) (l:List Elem),fC l<=k->tL v D l->Bs v D rv M base el (4-((d+1:Nat):Int)) (gJ D (d+1) base el) l:=by
   intro k;induction k using Nat.strongRecOn with
   |ind k ih=>
    intro l hk hl;refine Dy v D rv M base el _ _ l fun j hj=>?_;have hx:=Au hl j hj;have tp:=(xF _).1 hx;refine xH v D rv M base el _ _ so l[j] hx (fun _=>ih (fC l[j].bE) ?_ _ (dv _) tp.2.2.2.2.2.2) (fun h=>?_) (fun h=>?_)
    ·have h1:=nU hj;have h2:=j8 l[j];omega
    ·have:=(tp.2.2.2.2.2.1 h).1;rw[hf]at this;cases this
    ·have:=(tp.2.2.2.2.1 h).1;rw[hf]at this;cases this
  exact key _ l (dv _) hl pv lv sub n c W hm qX Oc hn
def nJ(v:cK)(base body:Bt)(eU:Bool):Value:=.agg #[.string (bs v.e0),.string (bs v.e1),.string (bs v.e2),.string (bs v.e3),.string (bs v.e4),.string (bs v.e5),.string (bs base),.string (bs body),.bool eU]
def lB(base body:Bt):Bool:=decide ((fN base).2=0)&&((fN base).1.mA&&decide (body.length<=20000))
def cj(v:cK)(base body:Bt)(eU:Bool):Array Value:=#[.string (bs v.e0),.string (bs v.e1),.string (bs v.e2),.string (bs v.e3),.string (bs v.e4),.string (bs v.e5),.string (bs base),.string (bs body),.bool eU]
theorem Je(v:cK)(base body:Bt)(eU:Bool)(hb:ju base)(w:World)(hg:eK w):
 Calls prog 14 #[nJ v base body eU] w fun e w'=>e=.returned (.bool (lB base body))/\Below w.heap.size w w':=by
 have HP:=bD hb;have HR:Hy (lB base body=(decide ((fN base).2=0)&&((fN base).1.mA&&decide (body.length<=20000)))):=rfl;unfold ju at HP;generalize lB base body=R at*;generalize fN base=PB at*;obtain⟨u,eu⟩:=PB;simp only at HR HP;have cg:Below w.heap.size w (w.alloc (.cells (cj v base body eU) 25)):=cU _ _;have HX:=bD (bL.new w 25 (cj v base body eU));have HB:=bD cg;have HG:=bD (hg.below cg);have lQ:=bJ body;clear cg hg hb;simp only[nJ];go_enter func14,ntmps14;go_wp2_with fail;refine(HP.o _ HG.o).mono ?_;rintro e w1 ⟨rfl,dG⟩;have VH:=HX.o.below dG HX.o.lt;have hB1:=HB.o.trans (dG.mono HB.o.size);have cg:=(cU w1 (.cells (ch u) 64));have HU:=bD (bL.new w1 64 (ch u));have iL:=bD (VH.below cg VH.lt);have dm:=bD (hB1.trans (cg.mono hB1.size));clear dG HX HB HG VH hB1 cg;simp only[eG.val];go_upto_region 2 with(fail)
 change Code.wp _ _ _ _ (w1.alloc (.cells (ch u) 64));generalize w1.alloc (.cells (ch u) 64)=w2 at*;generalize w1.heap.size=Y at*;have y0:=HU.o.cell 0;have x7:=iL.o.cell 7;simp[ch,cj]at y0 x7;by_cases he:eu=0
 ·have be:(eu==0)=true:=by rw[he];rfl
  cases SY:u.mA with
  |true=>
   rw[SY]at y0;have gN:Hy (R=decide (body.length<=20000)):=by rw[Hy,HR.o,SY,aS he];rfl
   clear he SY HR;by_cases hl:body.length<=20000
   ·have Yo:(body.length:Int)<=20000:=by omega
    have yp:Hy (R=true):=by rw[Hy,gN.o,aS hl]
    clear hl gN;go_wp2_with fail;go_ret;exact⟨cH yp.o.symm,dm.o⟩
   ·have Yo:¬(body.length:Int)<=20000:=by omega
    have yp:Hy (R=false):=by rw[Hy,gN.o,aT hl]
    clear hl gN;go_wp2_with fail;go_ret;exact⟨cH yp.o.symm,dm.o⟩
  |false=>
   rw[SY]at y0;have gN:Hy (R=false):=by rw[Hy,HR.o,SY];simp
   clear he SY HR;go_wp2_with fail;go_ret;exact⟨cH gN.o.symm,dm.o⟩
 ·have be:(eu==0)=false:=by rw[ai];exact he
  have gN:Hy (R=false):=by rw[Hy,HR.o,aT he];rfl
  clear he HR;go_wp2_with fail;go_ret;exact⟨cH gN.o.symm,dm.o⟩
theorem uI{w:World}{X:Nat}{tmps:Array Value}{r:fo}{b:Value}(h4:tmps[4]?.getD undef=.pointer (some ⟨X,0,none⟩))(h5:tmps[5]?.getD undef=b)(B0:bL w X 31 (bI r)):
 (results f6 tmps).run prog w=.ok (.tuple #[r.val,b]) w:=by
 obtain⟨a0,a1,a2,a3⟩:=lG B0;simp[bI]at a0 a1 a2 a3;simp[results,results6,go_sem,h4,h5,a0,a1,a2,a3,fo.val]
def iZ(D:lq)(base body:Bt)(eU:Bool):fo × Int:=
 if lB base body then(if eU then(ku D base body,0)else(dL body,0))else(fy,1)
theorem aa0{w:World}{name:String}{k:IntKind}{zs:List Int}(h:Lib.TabIs prog w name k zs){g:Nat}(hg:prog.globalNamed name=some g):g<w.heap.size:=by
 unfold Lib.TabIs World.var? at h;rw[hg]at h;rcases Nat.lt_or_ge g w.heap.size with h1|h1
 ·exact h1
 ·simp[Array.getElem?_eq_none h1]at h
theorem MK.new{v:cK}{rv:Value}{cR:List gw}{w:World}{F:Nat->Prop}(hr:GR w F (.row 5 (cR.map gw.gv)) [rv])(hg:eK w):MK v rv cR w.heap.size (w.alloc (.cells (nT v rv 0) 50)) 0:=by
 have cg:Below w.heap.size w (w.alloc (.cells (nT v rv 0) 50)):=cU _ _;refine⟨bL.new w 50 (nT v rv 0),((GR.du _ _ hr).dY (fun k hk=>hk.2)).below cg,hg.below cg,⟨?_,fun g Nu=>aa0 hg.2 Nu⟩,by omega⟩;obtain⟨m,hm⟩:=hg.1;exact aq w _ hm
theorem AB(v:cK)(D:lq)(base body:Bt)(eU:Bool)(rv:Value)(F:Nat->Prop)(hb:ju base)(Lr:(cM body).2=0->∀M rv,Dt v D rv M 4 (cM body).1)(po:(cM body).2=0->tL v D (cM body).1)(mP:body.length<=90000)
 (w:World) (hg:eK w) (GP:GR w F (.row 5 (D.cN.map gw.gv)) [rv]):
 Calls prog 6 #[nJ v base body eU,rv] w fun e w'=>e=.returned (.tuple #[(iZ D base body eU).1.val,.int .i64 (iZ D base body eU).2])/\Below w.heap.size w w':=by
 obtain⟨Ar,cr,rfl,-⟩:=pC GP;have HZ:Hy (iZ D base body eU=if lB base body then(if eU then(ku D base body,0)else(dL body,0))else(fy,1)):=rfl;have Dq:=bD (fun W hg=>Je v base body eU hb W hg);have HWH:=bD (fun M c w rv hm=>Bq v D rv M 4 base body (fun h=>Lr h M rv) c w hb po hm (dv _) mP);have sK:Below w.heap.size w (w.alloc (.cells (cj v base body eU) 25)):=cU _ _;have cg:=sK.alloc sK.size (.cells (bI fy) 31);have h1:=bL.new w 25 (cj v base body eU);have h2:=bL.new (w.alloc (.cells (cj v base body eU) 25)) 31 (bI fy);rw[size_alloc]at h2;have HX:=bD (h1.alloc (.cells (bI fy) 31));have HR:=bD h2;have HB:=bD cg;have HG:=bD (hg.below cg);have CX:=bD (GP.below cg);clear sK cg h1 h2 hg GP po Lr hb;generalize iZ D base body eU=Z at*;simp only[nJ]at*;go_enter func6,ntmps6;go_upto_region 1 with(fail)
 change Code.wp _ _ _ _ ((w.alloc (.cells (cj v base body eU) 25)).alloc (.cells (bI fy) 31));generalize(w.alloc (.cells (cj v base body eU) 25)).alloc (.cells (bI fy) 31)=w0 at*;generalize Dz:w.heap.size=P at*;have kz:=bD Dz;clear Dz;have HR:Hy (bL w0 (P+1) 31 (bI fy)):=HR;obtain⟨x0,x1,x2,x3,x4,x5,x6,x7,x8⟩:=zM HX.o;simp[cj]at x0 x1 x2 x3 x4 x5 x6 x7 x8;go_wp2_with fail;refine(Dq.o w0 HG.o).mono ?_;rintro e w1 ⟨rfl,dG⟩;have hx:=HX.o.below dG HX.o.lt;have hr:=HR.o.below dG HR.o.lt;have jL:=HB.o.trans (dG.mono (by have:=HB.o.size;rw[kz.o]at this;exact this));have YM:=HG.o.below dG;have GP:=CX.o.below dG;clear x0 x1 x2 x3 x4 x5 x6 x7 x8 HX HR HB HG CX dG;have HX:=bD hx;have HR:=bD hr;have HB:=bD jL;have HG:=bD YM;have CX:=bD GP;clear hx hr jL YM GP;cases hpr:lB base body with
 |false=>
  have gu:Hy (Z=(fy,1)):=by rw[Hy,HZ.o,hpr];rfl
  obtain⟨r0,r1,r2,r3⟩:=lG HR.o;simp[bI]at r0 r1 r2 r3;obtain⟨f0,f1,f2,f3⟩:=qm HR.o;go_wp2_with fail;have q1:=jB HR.o fy;have q2:=qA HB.o (show P<=P+1 by omega) fy;change bodyPost _ _ _ _ _ (dO w1 (P+1) fy);refine ag (uI rfl rfl q1) rfl ⟨?_,by rw[kz.o];exact q2⟩;rw[gu.o];rfl
 |true=>
  obtain⟨x0,x1,x2,x3,x4,x5,x6,x7,x8⟩:=zM HX.o;simp[cj]at x0 x1 x2 x3 x4 x5 x6 x7 x8;cases eU with
  |false=>
   have gu:Hy (Z=(dL body,0)):=by rw[Hy,HZ.o,hpr];rfl
   obtain⟨r0,r1,r2,r3⟩:=lG HR.o;simp[bI]at r0 r1 r2 r3;obtain⟨f0,f1,f2,f3⟩:=qm HR.o;go_wp2_with fail;have q1:=jB HR.o (dL body);have q2:=qA HB.o (show P<=P+1 by omega) (dL body);change bodyPost _ _ _ _ _ (dO w1 (P+1) (dL body));refine ag (uI rfl rfl q1) rfl ⟨?_,by rw[kz.o];exact q2⟩;rw[gu.o];rfl
  |true=>
   have gu:Hy (Z=(ku D base body,0)):=by rw[Hy,HZ.o,hpr];rfl
   go_upto_region 6 with(fail)
   have QP:=MK.new (v:=v) CX.o HG.o;have cg:Below w1.heap.size w1 (w1.alloc (.cells (nT v (.slice Ar D.cN.length cr) 0) 50)):=cU _ _;have hx:=HX.o.below cg HX.o.lt;have hr:=HR.o.below cg HR.o.lt;have jL:=HB.o.trans (cg.mono (by have:=HB.o.size;rw[kz.o]at this;exact this));have hMP:P+1<w1.heap.size:=HR.o.lt;change Code.wp _ _ _ _ (w1.alloc (.cells (nT v (.slice Ar D.cN.length cr) 0) 50));generalize w1.alloc (.cells (nT v (.slice Ar D.cN.length cr) 0) 50)=w2 at*;generalize w1.heap.size=M at*;clear x0 x1 x2 x3 x4 x5 x6 x7 x8 HX HR HB HG CX cg;have HX:=bD hx;have HR:=bD hr;have HB:=bD jL;have HM:=bD QP;have HMP:=bD hMP;clear hx hr jL QP hMP;obtain⟨x0,x1,x2,x3,x4,x5,x6,x7,x8⟩:=zM HX.o;simp[cj]at x0 x1 x2 x3 x4 x5 x6 x7 x8;have GO:=bD (HWH.o M 0 w2 _ HM.o);rw[show(4-((4:Nat):Int))=0 from rfl]at GO;have HWF:Hy (ku D base body=(iC D 4 base body 0).1):=by
    rw[Hy];unfold ku iC;split<;>rfl
   generalize iC D 4 base body 0=WC at*;clear HWH;go_wp2_with fail;refine GO.o.mono ?_;rintro e w3 ⟨rfl,pa,hm3,-⟩;have DA:=HR.o.grown pa (by have:=HMP.o;simp;omega);have fm:=HB.o.trans (bN pa (show P<=w2.heap.size by have:=HMP.o;have:=HM.o.iz.lt;omega) (fun k hk=>by injection hk with hk;have:=HMP.o;omega));clear pa hm3 HR HB x0 x1 x2 x3 x4 x5 x6 x7 x8;have HR:=bD DA;have HB:=bD fm;clear DA fm;obtain⟨r,c3⟩:=WC;simp only[fo.val];obtain⟨r0,r1,r2,r3⟩:=lG HR.o;simp[bI]at r0 r1 r2 r3;obtain⟨f0,f1,f2,f3⟩:=qm HR.o;go_wp2_with fail;have q1:=jB HR.o r;have q2:=qA HB.o (show P<=P+1 by omega) r;change bodyPost _ _ _ _ _ (dO w3 (P+1) r);refine ag (uI rfl rfl q1) rfl ⟨?_,by rw[kz.o];exact q2⟩;rw[gu.o,HWF.o];rfl
theorem Oi(v:cK)(D:lq)(base body:Bt)(eU:Bool)(rv:Value)(F:Nat->Prop)(hb:ju base)(hf:D.full=false)(wO:Ds v D)(po:(cM body).2=0->tL v D (cM body).1)(mP:body.length<=90000)
 (w:World) (hg:eK w) (GP:GR w F (.row 5 (D.cN.map gw.gv)) [rv]):
 Calls prog 6 #[nJ v base body eU,rv] w fun e w'=>e=.returned (.tuple #[(iZ D base body eU).1.val,.int .i64 (iZ D base body eU).2])/\Below w.heap.size w w':=
 AB v D base body eU rv F hb (fun _ M rv=>Rf v D rv M hf wO 4 (dv _) _) po mP w hg GP
end Go.Proofs.YtejafaaihodehaaGreatDoor
