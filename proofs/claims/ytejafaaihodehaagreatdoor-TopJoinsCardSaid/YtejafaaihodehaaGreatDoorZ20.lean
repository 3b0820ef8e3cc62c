/- Part 20. -/
import Derived.Test.YtejafaaihodehaaGreatDoorZ19
set_option linter.all false
set_option maxRecDepth 100000
set_option maxHeartbeats 8000000
namespace Go.Proofs.YtejafaaihodehaaGreatDoor
open Go Go.RowKit Tryz
def Vv(tx:Bt)(ej:Int)(name:Bt)(n:Nat):Int:=
 if dM tx=0\/dM tx=2\/dM tx=12 then 40 else if tx≠name\/ej=4/\n≠2\/ej=7/\n=0 then 42 else 0
def Vw(b:Nat)(ls:Value)(i:Int)(z:Int)(w:World)(e:Ending)(w':World):Prop:=
 e=.returned (.tuple #[])/\bL w' b 84 #[ls,.int .i64 i,.int .i64 z]/\w.grownBy w' (some b)
theorem Pr(b:Nat)(Al:Option Addr)(nl cl:Nat)(i kd:Int)(tx:ByteArray)(Av:Option Addr)(nv cv:Nat)(ej:Int)(name:ByteArray)(Ao:Option Addr)(n co:Nat)(w:World)(hn:n<=100000)
 (hb:bL w b 84 #[.slice Al nl cl,.int .i64 i,.int .i64 0]):
 Calls prog 42 #[.pointer (some ⟨b,0,none⟩),.agg #[.int .i64 kd,.string tx,.slice Av nv cv],.int .i64 ej,.string name,.slice Ao n co] w
  (Vw b (.slice Al nl cl) i (Vv (L tx) ej (L name) n) w):=by
 have Fa:Hy (Vv (L tx) ej (L name) n=if dM (L tx)=0\/dM (L tx)=2\/dM (L tx)=12 then 40 else if L tx≠L name\/ej=4/\n≠2\/ej=7/\n=0 then 42 else 0):=rfl;generalize Vv (L tx) ej (L name) n=EN at*;have bW:=hb.lt;have pq:=cU w (.cells #[.int .i64 kd,.string tx,.slice Av nv cv] 75);have hT:=bL.new w 75 #[.int .i64 kd,.string tx,.slice Av nv cv];have M9:=bD hT;have nz:=bD hb;have wB:=bD pq;have Fs:=bD bW;clear hb pq hT bW;go_enter func42,ntmps42;go_wp2_with fail;refine(ET tx _).mono ?_;rintro e w1 ⟨rfl,dG⟩;have hJ:=bD ((nz.o.alloc (.cells #[.int .i64 kd,.string tx,.slice Av nv cv] 75)).below dG (nz.o.alloc _).lt);have V1:=bD (M9.o.below dG M9.o.lt);have tj:=bD (eR (wB.o.trans (dG.mono wB.o.size)) (some b));generalize dM (L tx)=K at*;clear dG M9 nz wB;have t1:=V1.o.cell 1;have c2:=hJ.o.cell 2;have f2:=hJ.o.frozen 2;have Fy:tx.toList=L tx:=cw tx;have hnl:name.toList=L name:=cw name;by_cases hK:K=0\/K=2\/K=12
 ·rw[ae hK]at Fa;rcases hK with rfl|rfl|rfl
  all_goals
   go_wp2_with fail;go_end0;exact⟨rfl,by rw[Fa.o];exact hJ.o.cL 2 _,bF tj.o (.inl rfl) _⟩
 ·rw[aa hK]at Fa;have tW:(K==0)=false:=ai.2 (fun h=>hK (.inl h));have fA:(K==2)=false:=ai.2 (fun h=>hK (.inr (.inl h)));have Nh:(K==12)=false:=ai.2 (fun h=>hK (.inr (.inr h)));clear hK;cases hx:(L tx==L name)with
  |false=>
   have db:L tx≠L name:=ai.1 hx;rw[ae (Or.inl db)]at Fa;clear db;go_wp2_with fail;go_end0;exact⟨rfl,by rw[Fa.o];exact hJ.o.cL 2 _,bF tj.o (.inl rfl) _⟩
  |true=>
   have he:L tx=L name:=beq_iff_eq.1 hx;simp only[he,ne_eq,not_true_eq_false,false_or]at Fa;clear he;by_cases h4:ej=4
   ·subst h4;have PM:((4:Int)==7)=false:=rfl;have h44:((4:Int)==4)=true:=rfl;by_cases h2:n=2
    ·subst h2;have Cn:Hy (EN=0):=Fa.o.trans (aa (by omega));clear Fa;go_wp2_with fail;go_end0;exact⟨rfl,by rw[Cn.o];exact hJ.o,tj.o⟩
    ·have h22:((n:Int)==2)=false:=ai.2 (by omega);have h23:((n:Int)!=2)=true:=by rw[bne,h22];rfl
     have Cn:Hy (EN=42):=Fa.o.trans (ae (.inl ⟨rfl,h2⟩));clear Fa h2 h22;go_wp2_with fail;go_end0;exact⟨rfl,by rw[Cn.o];exact hJ.o.cL 2 _,bF tj.o (.inl rfl) _⟩
   ·have h44:(ej==4)=false:=ai.2 h4;by_cases h7:ej=7
    ·subst h7;have h77:((7:Int)==7)=true:=rfl;by_cases h0:n=0
     ·subst h0;have Cn:Hy (EN=42):=Fa.o.trans (ae (.inr ⟨rfl,rfl⟩));clear Fa;go_wp2_with fail;go_end0;exact⟨rfl,by rw[Cn.o];exact hJ.o.cL 2 _,bF tj.o (.inl rfl) _⟩
     ·have h00:((n:Int)==0)=false:=ai.2 (by omega);have Cn:Hy (EN=0):=Fa.o.trans (aa (by omega));clear Fa h0;go_wp2_with fail;go_end0;exact⟨rfl,by rw[Cn.o];exact hJ.o,tj.o⟩
    ·have h77:(ej==7)=false:=ai.2 h7;have Cn:Hy (EN=0):=Fa.o.trans (aa (by omega));clear Fa h4 h7;go_wp2_with fail;go_end0;exact⟨rfl,by rw[Cn.o];exact hJ.o,tj.o⟩
theorem Ps(t:bG):(gV t).1.bE=[]/\(gV t).1.kind=dM t.text:=by
 unfold gV;by_cases e2:dM t.text=2
 ·rw[ae e2];exact⟨rfl,e2.symm⟩
 ·rw[aa e2];by_cases e3:dM t.text=3
  ·rw[ae e3];exact⟨rfl,e3.symm⟩
  ·rw[aa e3];by_cases e12:dM t.text=12
   ·rw[ae e12];exact⟨rfl,e12.symm⟩
   ·rw[aa e12];by_cases e8:dM t.text=8
    ·rw[ae e8];exact⟨rfl,e8.symm⟩
    ·rw[aa e8];exact⟨rfl,rfl⟩
def Qs(b:Nat)(ls:Value)(w:World)(z:List Elem × Int × Nat)(e:Ending)(w':World):Prop:=
 (∃A c,e=.returned (.slice A z.1.length c)/\GR w' (fun g=>w.heap.size<=g) (.row 7 (z.1.map Elem.gv)) [.slice A z.1.length c])/\bL w' b 84 #[ls,.int .i64 z.2.2,.int .i64 z.2.1]/\w.grownBy w' (some b)
def ao9(b:Nat)(ls:Value)(w:World)(z:Elem × Int × Nat)(e:Ending)(w':World):Prop:=
 (∃A c,e=.returned (.agg (dp z.1 (.slice A z.1.bE.length c)).toArray)/\GR w' (fun g=>w.heap.size<=g) (.row 7 (z.1.bE.map Elem.gv)) [.slice A z.1.bE.length c])/\bL w' b 84 #[ls,.int .i64 z.2.2,.int .i64 z.2.1]/\w.grownBy w' (some b)
theorem dx{w:World}{R:Nat}{tmps:Array Value}{x0 x1 x2 x3 x4 x5 x6:Value}(h2:tmps[10]?.getD undef=.pointer (some ⟨R,0,none⟩))(B0:bL w R 62 #[x0,x1,x2,x3,x4,x5,x6]):
 (results f43 tmps).run prog w=.ok (.agg #[x0,x1,x2,x3,x4,x5,x6]) w:=by
 obtain⟨a0,a1,a2,a3,a4,a5,a6⟩:=ph B0;simp[results,results43,go_sem,h2,a0,a1,a2,a3,a4,a5,a6]
structure zB(w W:World)(b E:Nat)(tok ec:Array Value)(bc:Array Value):Prop where
 hT:bL W w.heap.size 75 tok
 hR:bL W (w.heap.size+1) 62 #[.int .i64 0,.string ⟨#[]⟩,.string ⟨#[]⟩,.string ⟨#[]⟩,.bool false,.string ⟨#[]⟩,.slice none 0 0]
 hE:bL W E 62 ec
 hB:bL W b 84 bc
 hg:w.grownBy W (some b)
 hl:w.heap.size+2<=E
 hb:b<w.heap.size
section
variable {w W W':World} {b E:Nat} {tok ec bc:Array Value}
theorem zB.EU(h:zB w W b E tok ec bc)(i:Nat)(u:Value):zB w (W.setCell ⟨b,i,none⟩ u) b E tok ec (bc.setIfInBounds i u):=
 have h1:=h.hb;have h2:=h.hl
 ⟨h.hT.gf (by show w.heap.size≠b;omega) u,h.hR.gf (by show w.heap.size+1≠b;omega) u,h.hE.gf (by show E≠b;omega) u,h.hB.cL i u,bF h.hg (.inl rfl) u,h2,h1⟩
theorem zB.ap0(h:zB w W b E tok ec bc)(i:Nat)(u:Value):zB w (W.setCell ⟨E,i,none⟩ u) b E tok (ec.setIfInBounds i u) bc:=
 have h1:=h.hb;have h2:=h.hl
 ⟨h.hT.gf (by show w.heap.size≠E;omega) u,h.hR.gf (by show w.heap.size+1≠E;omega) u,h.hE.cL i u,h.hB.gf (by show b≠E;omega) u,bF h.hg (.inr (by show w.heap.size<=E;omega)) u,h2,h1⟩
theorem zB.step(h:zB w W b E tok ec bc)(hg:W.grownBy W' (some b)){bc':Array Value}(hB:bL W' b 84 bc'):zB w W' b E tok ec bc':=
 have h1:=h.hb;have h2:=h.hl;have ne:∀{g:Nat},w.heap.size<=g->some g≠some b:=fun{g} hg e=>by injection e with e;omega
 ⟨h.hT.grown hg (ne (dv _)),h.hR.grown hg (ne (aY _)),h.hE.grown hg (ne (by omega)),hB,dR h.hg hg (fun k hk=>.inl hk),h2,h1⟩
theorem bL.ay5{g R:Nat}{t:TypeId}{cs:Array Value}(h:bL W g t cs)(db:g≠R)(x0 x1 x2 x3 x4 x5 x6:Value):bL (kE W R x0 x1 x2 x3 x4 x5 x6) g t cs:=
 ((((((h.gf (p:=⟨R,0,none⟩) db x0).gf (p:=⟨R,1,none⟩) db x1).gf (p:=⟨R,2,none⟩) db x2).gf (p:=⟨R,3,none⟩) db x3).gf (p:=⟨R,4,none⟩) db x4).gf (p:=⟨R,5,none⟩) db x5).gf (p:=⟨R,6,none⟩) db x6
theorem Vx{a:World}{row:Option Nat}{R:Nat}(h:a.grownBy W row)(hR:some R=row\/a.heap.size<=R)(x0 x1 x2 x3 x4 x5 x6:Value):a.grownBy (kE W R x0 x1 x2 x3 x4 x5 x6) row:=by
 have h0:=bF h (p:=⟨R,0,none⟩) hR x0;have h1:=bF h0 (p:=⟨R,1,none⟩) hR x1;have h2:=bF h1 (p:=⟨R,2,none⟩) hR x2;have h3:=bF h2 (p:=⟨R,3,none⟩) hR x3;have h4:=bF h3 (p:=⟨R,4,none⟩) hR x4;have h5:=bF h4 (p:=⟨R,5,none⟩) hR x5;exact bF h5 (p:=⟨R,6,none⟩) hR x6
theorem zB.fin{x0 x1 x2 x3 x4 x5 x6:Value}(h:zB w W b E tok #[x0,x1,x2,x3,x4,x5,x6] bc):
 bL (kE W (w.heap.size+1) x0 x1 x2 x3 x4 x5 x6) (w.heap.size+1) 62 #[x0,x1,x2,x3,x4,x5,x6]/\bL (kE W (w.heap.size+1) x0 x1 x2 x3 x4 x5 x6) b 84 bc/\w.grownBy (kE W (w.heap.size+1) x0 x1 x2 x3 x4 x5 x6) (some b)/\
  W.grownBy (kE W (w.heap.size+1) x0 x1 x2 x3 x4 x5 x6) (some (w.heap.size+1)):=
 have h1:=h.hb
 ⟨gn h.hR _ _ _ _ _ _ _,
  h.hB.ay5 (by omega) _ _ _ _ _ _ _,
  Vx h.hg (.inr (aY _)) _ _ _ _ _ _ _,Vx (bR _ _) (.inl rfl) _ _ _ _ _ _ _⟩
end
def Vy(b:Nat)(ls:Value)(deep:Int)(sub:Int->Bt->Nat->List Elem × Int × Nat)(ej:Int)(name:ByteArray)(i:Nat)(w:World):Prop:=
 Calls prog 29 #[.pointer (some ⟨b,0,none⟩),.int .i64 ej,.string name,.int .i64 deep] w (Qs b ls w (sub ej (L name) i))
theorem Gl(b:Nat)(Al:Option Addr)(nl cl:Nat)(i:Nat)(kd:Int)(tx:ByteArray)(bK:List bY)(va:Value)(ej:Int)(out:List Elem)(vo:Value)(dn:Nat)(sub:Int->Bt->Nat->List Elem × Int × Nat)(F G:Nat->Prop)(w:World)
 (hd:dn<=16) (hb:bL w b 84 #[.slice Al nl cl,.int .i64 i,.int .i64 0]) (hv:GR w F (.row 2 (bK.map bY.gv)) [va]) (ho:GR w G (.row 7 (out.map Elem.gv)) [vo])
 (yO:dn<16->∀(W:World) (k:Int),w.grownBy W (some b)->bL W b 84 #[.slice Al nl cl,.int .i64 i,.int .i64 0]->Vy b (.slice Al nl cl) (dn+1) sub k tx i W):
 Calls prog 43 #[.pointer (some ⟨b,0,none⟩),.agg #[.int .i64 kd,.string tx,va],.int .i64 ej,vo,.int .i64 dn] w
  (ao9 b (.slice Al nl cl) w (mx sub (decide (dn<16)) ⟨kd,L tx,bK⟩ ej out i)):=by
 obtain⟨Av,cv,rfl,-,-,-⟩:=dV hv;obtain⟨Ao,co,rfl,-,-,-⟩:=dW ho;have bW:=hb.lt;have pq:=(cU w (.cells #[.int .i64 kd,.string tx,.slice Av bK.length cv] 75));have dG:=pq.alloc pq.size (.cells #[.int .i64 0,.string ⟨#[]⟩,.string ⟨#[]⟩,.string ⟨#[]⟩,.bool false,.string ⟨#[]⟩,.slice none 0 0] 62);have M9:=bD ((bL.new w 75 #[.int .i64 kd,.string tx,.slice Av bK.length cv]).alloc (.cells #[.int .i64 0,.string ⟨#[]⟩,.string ⟨#[]⟩,.string ⟨#[]⟩,.bool false,.string ⟨#[]⟩,.slice none 0 0] 62));have hr:=bL.new (w.alloc (.cells #[.int .i64 kd,.string tx,.slice Av bK.length cv] 75)) 62 #[.int .i64 0,.string ⟨#[]⟩,.string ⟨#[]⟩,.string ⟨#[]⟩,.bool false,.string ⟨#[]⟩,.slice none 0 0];rw[size_alloc]at hr;have Fk:=bD hr;have nz:=bD (hb.below dG bW);have wB:=bD dG;have HV:=bD hv;have HO:=bD ho;have Q9:=bD yO;have Fs:=bD bW;have hdd:(dn:Int)<=16:=by omega
 have j4:Hy (mx sub (decide (dn<16)) ⟨kd,L tx,bK⟩ ej out i=
  if dM (L tx)=0\/o9 (dM (L tx))≠decide (kd=3)then((gV ⟨kd,L tx,bK⟩).1,40,i)
  else if(gV ⟨kd,L tx,bK⟩).2=false then((gV ⟨kd,L tx,bK⟩).1,41,i)
  else if AW ej out (dM (L tx))=false then((gV ⟨kd,L tx,bK⟩).1,42,i)
  else if o9 (dM (L tx))=true then((gV ⟨kd,L tx,bK⟩).1,0,i)
  else if decide (dn<16)=false then((gV ⟨kd,L tx,bK⟩).1,5,i)
  else((gV ⟨kd,L tx,bK⟩).1.dD (if dM (L tx)=11 then[]else(sub (dM (L tx)) (L tx) i).1),(sub (dM (L tx)) (L tx) i).2.1,(sub (dM (L tx)) (L tx) i).2.2)):=rfl
 have HEC:=bD (JW kd tx _ bK F _ (hv.below dG));have hke:=Ps ⟨kd,L tx,bK⟩;have HKE:=bD hke;generalize mx sub (decide (dn<16)) ⟨kd,L tx,bK⟩ ej out i=BR at*;generalize gV ⟨kd,L tx,bK⟩=RR at*;obtain⟨⟨xk,xt,xs,xa,xb,xu,xl⟩,ok⟩:=RR;simp only[Elem.bE,Elem.kind]at hke;obtain⟨rfl,hxk⟩:=hke;rw[<-hxk]at j4;simp only[Elem.dD]at j4;have HXK:=bD hxk;clear hb hv ho yO pq dG hr bW hxk HKE;go_enter func43,ntmps43;go_wp2_with fail;refine HEC.o.mono ?_;rintro e w1 ⟨he,dG⟩;simp only[Elem.kind,Elem.text,Elem.src,Elem.jZ,Elem.fp,Elem.test]at he;subst he;clear HEC;have GM:=cU w1 (.cells #[.int .i64 xk,.string (bs xt),.string (bs xs),.string (bs xa),.bool xb,.string (bs xu),.slice none 0 0] 62);have ST:Hy (zB w (w1.alloc (.cells #[.int .i64 xk,.string (bs xt),.string (bs xs),.string (bs xa),.bool xb,.string (bs xu),.slice none 0 0] 62)) b w1.heap.size #[.int .i64 kd,.string tx,.slice Av bK.length cv]
  #[.int .i64 xk,.string (bs xt),.string (bs xs),.string (bs xa),.bool xb,.string (bs xu),.slice none 0 0] #[.slice Al nl cl,.int .i64 i,.int .i64 0]):=
  ⟨(M9.o.below dG M9.o.lt).alloc _,(Fk.o.below dG Fk.o.lt).alloc _,bL.new w1 _ _,(nz.o.below dG nz.o.lt).alloc _,
    eR ((wB.o.trans (dG.mono wB.o.size)).trans (GM.mono (wB.o.trans (dG.mono wB.o.size)).size)) _,by have:=dG.size;rw[size_alloc,size_alloc]at this;omega,Fs.o⟩
 have SO:=bD (HO.o.below ((wB.o.trans (dG.mono wB.o.size)).trans (GM.mono (wB.o.trans (dG.mono wB.o.size)).size)));clear dG GM M9 Fk nz wB;go_upto_region 2 with(fail)
 generalize hW:w1.alloc (.cells #[.int .i64 xk,.string (bs xt),.string (bs xs),.string (bs xa),.bool xb,.string (bs xu),.slice none 0 0] 62)=W at ST SO|-;generalize w1.heap.size=E at ST|-;clear hW;obtain⟨e0,e1,e2,e3,e4,e5,e6⟩:=ph ST.o.hE;obtain⟨r0,r1,r2,r3,r4,r5,r6⟩:=ph ST.o.hR;obtain⟨q0,q1,q2,q3,q4,q5,q6⟩:=zE ST.o.hR;obtain⟨t0,t1,t2⟩:=nw ST.o.hT;have c2:=ST.o.hB.cell 2;have f2:=ST.o.hB.frozen 2;by_cases xB:xk=0
 ·have HR:Hy (BR=(.mk xk xt xs xa xb xu [],40,i)):=by rw[Hy,j4.o];exact ae (.inl xB)
  subst xB;go_upto_region 5 with(fail)
  have fZ:=bD (ST.o.EU 2 (.int .i64 40));generalize W.setCell ⟨b,2,none⟩ (.int .i64 40)=W2 at fZ|-;clear e0 e1 e2 e3 e4 e5 e6 r0 r1 r2 r3 r4 r5 r6 q0 q1 q2 q3 q4 q5 q6 t0 t1 t2 c2 f2;obtain⟨e0,e1,e2,e3,e4,e5,e6⟩:=ph fZ.o.hE;obtain⟨r0,r1,r2,r3,r4,r5,r6⟩:=ph fZ.o.hR;obtain⟨q0,q1,q2,q3,q4,q5,q6⟩:=zE fZ.o.hR;go_wp2_with fail;refine ag (dx rfl fZ.o.fin.1) rfl ?_;rw[HR.o];exact⟨⟨none,0,rfl,cS⟩,fZ.o.fin.2.1,fZ.o.fin.2.2.1⟩
 ·have tW:(xk==0)=false:=ai.2 xB;have Cb:Hy (o9 xk=(xk==2||xk==12)):=by rw[Hy,o9,bj];simp
  obtain⟨al,cg⟩:∃al,o9 xk=al:=⟨_,rfl⟩;obtain⟨k3,xh⟩:∃k3,decide (kd=3)=k3:=⟨_,rfl⟩;rw[cg,xh]at j4;have ap1:(kd==3)=k3:=by rw[<-xh,bj];simp
  have ap2:(xk==2)=true/\al=true\/(xk==2)=false/\(xk==12)=al:=by
   rw[<-cg,Cb.o];cases(xk==2)<;>simp
  have HAK:=bD cg;clear xh cg Cb xB;rcases ap2 with⟨tp,rfl⟩|⟨tp,aE9⟩
  ·cases k3 with
   |false=>
    have HR:Hy (BR=(.mk xk xt xs xa xb xu [],40,i)):=j4.o.trans (ae (.inr (by decide)));go_upto_region 5 with(fail)
    have fZ:=bD (ST.o.EU 2 (.int .i64 40));generalize W.setCell ⟨b,2,none⟩ (.int .i64 40)=W2 at fZ|-;clear e0 e1 e2 e3 e4 e5 e6 r0 r1 r2 r3 r4 r5 r6 q0 q1 q2 q3 q4 q5 q6 t0 t1 t2 c2 f2;obtain⟨e0,e1,e2,e3,e4,e5,e6⟩:=ph fZ.o.hE;obtain⟨r0,r1,r2,r3,r4,r5,r6⟩:=ph fZ.o.hR;obtain⟨q0,q1,q2,q3,q4,q5,q6⟩:=zE fZ.o.hR;go_wp2_with fail;refine ag (dx rfl fZ.o.fin.1) rfl ?_;rw[HR.o];exact⟨⟨none,0,rfl,cS⟩,fZ.o.fin.2.1,fZ.o.fin.2.2.1⟩
   |true=>
    have tQ:¬(xk=0\/true≠true):=fun h=>h.elim (fun h=>by rw[h]at tW;cases tW) (fun h=>h rfl);rw[aa tQ]at j4;cases ok with
    |false=>
     have HR:Hy (BR=(.mk xk xt xs xa xb xu [],41,i)):=j4.o.trans (ae rfl);go_upto_region 8 with(fail)
     have fZ:=bD (ST.o.EU 2 (.int .i64 41));generalize W.setCell ⟨b,2,none⟩ (.int .i64 41)=W2 at fZ|-;clear e0 e1 e2 e3 e4 e5 e6 r0 r1 r2 r3 r4 r5 r6 q0 q1 q2 q3 q4 q5 q6 t0 t1 t2 c2 f2;obtain⟨e0,e1,e2,e3,e4,e5,e6⟩:=ph fZ.o.hE;obtain⟨r0,r1,r2,r3,r4,r5,r6⟩:=ph fZ.o.hR;obtain⟨q0,q1,q2,q3,q4,q5,q6⟩:=zE fZ.o.hR;go_wp2_with fail;refine ag (dx rfl fZ.o.fin.1) rfl ?_;rw[HR.o];exact⟨⟨none,0,rfl,cS⟩,fZ.o.fin.2.1,fZ.o.fin.2.2.1⟩
    |true=>
     rw[aa (show ¬(true=false) by decide)]at j4;go_wp2_with fail;refine(AY ej xk out _ _ W SO.o).mono ?_;rintro e w3 ⟨rfl,rfl⟩;obtain⟨mm,QU⟩:∃mm,AW ej out xk=mm:=⟨_,rfl⟩;rw[QU]at j4|-;clear QU;cases mm with
     |false=>
      have HR:Hy (BR=(.mk xk xt xs xa xb xu [],42,i)):=j4.o.trans (ae rfl);go_upto_region 11 with(fail)
      have fZ:=bD (ST.o.EU 2 (.int .i64 42));generalize W.setCell ⟨b,2,none⟩ (.int .i64 42)=W2 at fZ|-;clear e0 e1 e2 e3 e4 e5 e6 r0 r1 r2 r3 r4 r5 r6 q0 q1 q2 q3 q4 q5 q6 t0 t1 t2 c2 f2;obtain⟨e0,e1,e2,e3,e4,e5,e6⟩:=ph fZ.o.hE;obtain⟨r0,r1,r2,r3,r4,r5,r6⟩:=ph fZ.o.hR;obtain⟨q0,q1,q2,q3,q4,q5,q6⟩:=zE fZ.o.hR;go_wp2_with fail;refine ag (dx rfl fZ.o.fin.1) rfl ?_;rw[HR.o];exact⟨⟨none,0,rfl,cS⟩,fZ.o.fin.2.1,fZ.o.fin.2.2.1⟩
     |true=>
      rw[aa (show ¬(true=false) by decide)]at j4;have HR:Hy (BR=(.mk xk xt xs xa xb xu [],0,i)):=j4.o.trans (by first|exact ae rfl|exact ae trivial|simp);go_wp2_with fail;refine ag (dx rfl ST.o.fin.1) rfl ?_;rw[HR.o];exact⟨⟨none,0,rfl,cS⟩,ST.o.fin.2.1,ST.o.fin.2.2.1⟩
  ·cases al with
   |true=>
    cases k3 with
    |false=>
     have HR:Hy (BR=(.mk xk xt xs xa xb xu [],40,i)):=j4.o.trans (ae (.inr (by decide)));go_upto_region 5 with(fail)
     have fZ:=bD (ST.o.EU 2 (.int .i64 40));generalize W.setCell ⟨b,2,none⟩ (.int .i64 40)=W2 at fZ|-;clear e0 e1 e2 e3 e4 e5 e6 r0 r1 r2 r3 r4 r5 r6 q0 q1 q2 q3 q4 q5 q6 t0 t1 t2 c2 f2;obtain⟨e0,e1,e2,e3,e4,e5,e6⟩:=ph fZ.o.hE;obtain⟨r0,r1,r2,r3,r4,r5,r6⟩:=ph fZ.o.hR;obtain⟨q0,q1,q2,q3,q4,q5,q6⟩:=zE fZ.o.hR;go_wp2_with fail;refine ag (dx rfl fZ.o.fin.1) rfl ?_;rw[HR.o];exact⟨⟨none,0,rfl,cS⟩,fZ.o.fin.2.1,fZ.o.fin.2.2.1⟩
    |true=>
     have tQ:¬(xk=0\/true≠true):=fun h=>h.elim (fun h=>by rw[h]at tW;cases tW) (fun h=>h rfl);rw[aa tQ]at j4;cases ok with
     |false=>
      have HR:Hy (BR=(.mk xk xt xs xa xb xu [],41,i)):=j4.o.trans (ae rfl);go_upto_region 8 with(fail)
      have fZ:=bD (ST.o.EU 2 (.int .i64 41));generalize W.setCell ⟨b,2,none⟩ (.int .i64 41)=W2 at fZ|-;clear e0 e1 e2 e3 e4 e5 e6 r0 r1 r2 r3 r4 r5 r6 q0 q1 q2 q3 q4 q5 q6 t0 t1 t2 c2 f2;obtain⟨e0,e1,e2,e3,e4,e5,e6⟩:=ph fZ.o.hE;obtain⟨r0,r1,r2,r3,r4,r5,r6⟩:=ph fZ.o.hR;obtain⟨q0,q1,q2,q3,q4,q5,q6⟩:=zE fZ.o.hR;go_wp2_with fail;refine ag (dx rfl fZ.o.fin.1) rfl ?_;rw[HR.o];exact⟨⟨none,0,rfl,cS⟩,fZ.o.fin.2.1,fZ.o.fin.2.2.1⟩
     |true=>
      rw[aa (show ¬(true=false) by decide)]at j4;go_wp2_with fail;refine(AY ej xk out _ _ W SO.o).mono ?_;rintro e w3 ⟨rfl,rfl⟩;obtain⟨mm,QU⟩:∃mm,AW ej out xk=mm:=⟨_,rfl⟩;rw[QU]at j4|-;clear QU;cases mm with
      |false=>
       have HR:Hy (BR=(.mk xk xt xs xa xb xu [],42,i)):=j4.o.trans (ae rfl);go_upto_region 11 with(fail)
       have fZ:=bD (ST.o.EU 2 (.int .i64 42));generalize W.setCell ⟨b,2,none⟩ (.int .i64 42)=W2 at fZ|-;clear e0 e1 e2 e3 e4 e5 e6 r0 r1 r2 r3 r4 r5 r6 q0 q1 q2 q3 q4 q5 q6 t0 t1 t2 c2 f2;obtain⟨e0,e1,e2,e3,e4,e5,e6⟩:=ph fZ.o.hE;obtain⟨r0,r1,r2,r3,r4,r5,r6⟩:=ph fZ.o.hR;obtain⟨q0,q1,q2,q3,q4,q5,q6⟩:=zE fZ.o.hR;go_wp2_with fail;refine ag (dx rfl fZ.o.fin.1) rfl ?_;rw[HR.o];exact⟨⟨none,0,rfl,cS⟩,fZ.o.fin.2.1,fZ.o.fin.2.2.1⟩
      |true=>
       rw[aa (show ¬(true=false) by decide)]at j4;have HR:Hy (BR=(.mk xk xt xs xa xb xu [],0,i)):=j4.o.trans (by first|exact ae rfl|exact ae trivial|simp);go_wp2_with fail;refine ag (dx rfl ST.o.fin.1) rfl ?_;rw[HR.o];exact⟨⟨none,0,rfl,cS⟩,ST.o.fin.2.1,ST.o.fin.2.2.1⟩
   |false=>
    cases k3 with
    |true=>
     have HR:Hy (BR=(.mk xk xt xs xa xb xu [],40,i)):=j4.o.trans (ae (.inr (by decide)));go_upto_region 5 with(fail)
     have fZ:=bD (ST.o.EU 2 (.int .i64 40));generalize W.setCell ⟨b,2,none⟩ (.int .i64 40)=W2 at fZ|-;clear e0 e1 e2 e3 e4 e5 e6 r0 r1 r2 r3 r4 r5 r6 q0 q1 q2 q3 q4 q5 q6 t0 t1 t2 c2 f2;obtain⟨e0,e1,e2,e3,e4,e5,e6⟩:=ph fZ.o.hE;obtain⟨r0,r1,r2,r3,r4,r5,r6⟩:=ph fZ.o.hR;obtain⟨q0,q1,q2,q3,q4,q5,q6⟩:=zE fZ.o.hR;go_wp2_with fail;refine ag (dx rfl fZ.o.fin.1) rfl ?_;rw[HR.o];exact⟨⟨none,0,rfl,cS⟩,fZ.o.fin.2.1,fZ.o.fin.2.2.1⟩
    |false=>
     have tQ:¬(xk=0\/false≠false):=fun h=>h.elim (fun h=>by rw[h]at tW;cases tW) (fun h=>h rfl);rw[aa tQ]at j4;cases ok with
     |false=>
      have HR:Hy (BR=(.mk xk xt xs xa xb xu [],41,i)):=j4.o.trans (ae rfl);go_upto_region 8 with(fail)
      have fZ:=bD (ST.o.EU 2 (.int .i64 41));generalize W.setCell ⟨b,2,none⟩ (.int .i64 41)=W2 at fZ|-;clear e0 e1 e2 e3 e4 e5 e6 r0 r1 r2 r3 r4 r5 r6 q0 q1 q2 q3 q4 q5 q6 t0 t1 t2 c2 f2;obtain⟨e0,e1,e2,e3,e4,e5,e6⟩:=ph fZ.o.hE;obtain⟨r0,r1,r2,r3,r4,r5,r6⟩:=ph fZ.o.hR;obtain⟨q0,q1,q2,q3,q4,q5,q6⟩:=zE fZ.o.hR;go_wp2_with fail;refine ag (dx rfl fZ.o.fin.1) rfl ?_;rw[HR.o];exact⟨⟨none,0,rfl,cS⟩,fZ.o.fin.2.1,fZ.o.fin.2.2.1⟩
     |true=>
      rw[aa (show ¬(true=false) by decide)]at j4;go_wp2_with fail;refine(AY ej xk out _ _ W SO.o).mono ?_;rintro e w3 ⟨rfl,rfl⟩;obtain⟨mm,QU⟩:∃mm,AW ej out xk=mm:=⟨_,rfl⟩;rw[QU]at j4|-;clear QU;cases mm with
      |false=>
       have HR:Hy (BR=(.mk xk xt xs xa xb xu [],42,i)):=j4.o.trans (ae rfl);go_upto_region 11 with(fail)
       have fZ:=bD (ST.o.EU 2 (.int .i64 42));generalize W.setCell ⟨b,2,none⟩ (.int .i64 42)=W2 at fZ|-;clear e0 e1 e2 e3 e4 e5 e6 r0 r1 r2 r3 r4 r5 r6 q0 q1 q2 q3 q4 q5 q6 t0 t1 t2 c2 f2;obtain⟨e0,e1,e2,e3,e4,e5,e6⟩:=ph fZ.o.hE;obtain⟨r0,r1,r2,r3,r4,r5,r6⟩:=ph fZ.o.hR;obtain⟨q0,q1,q2,q3,q4,q5,q6⟩:=zE fZ.o.hR;go_wp2_with fail;refine ag (dx rfl fZ.o.fin.1) rfl ?_;rw[HR.o];exact⟨⟨none,0,rfl,cS⟩,fZ.o.fin.2.1,fZ.o.fin.2.2.1⟩
      |true=>
       rw[aa (show ¬(true=false) by decide)]at j4;rw[aa (show ¬(false=true) by decide)]at j4;by_cases hdn:dn=16
       ·have HR:Hy (BR=(.mk xk xt xs xa xb xu [],5,i)):=j4.o.trans (ae (aT (by omega)));have ay6:((dn:Int)==16)=true:=by rw[hdn];rfl
        clear hdn;go_upto_region 16 with(fail)
        have fZ:=bD (ST.o.EU 2 (.int .i64 5));generalize W.setCell ⟨b,2,none⟩ (.int .i64 5)=W2 at fZ|-;clear e0 e1 e2 e3 e4 e5 e6 r0 r1 r2 r3 r4 r5 r6 q0 q1 q2 q3 q4 q5 q6 t0 t1 t2 c2 f2;obtain⟨e0,e1,e2,e3,e4,e5,e6⟩:=ph fZ.o.hE;obtain⟨r0,r1,r2,r3,r4,r5,r6⟩:=ph fZ.o.hR;obtain⟨q0,q1,q2,q3,q4,q5,q6⟩:=zE fZ.o.hR;go_wp2_with fail;refine ag (dx rfl fZ.o.fin.1) rfl ?_;rw[HR.o];exact⟨⟨none,0,rfl,cS⟩,fZ.o.fin.2.1,fZ.o.fin.2.2.1⟩
       ·have ay6:((dn:Int)==16)=false:=ai.2 (by omega);rw[aa (by rw[aS (show dn<16 by omega)];decide)]at j4;have hs:=Q9.o (by omega) W xk ST.o.hg ST.o.hB;unfold Vy at hs;have HS:=bD hs;clear hs hdn;generalize sub xk (L tx) i=z at*;obtain⟨zl,ze,zi⟩:=z;go_wp2_with fail;refine HS.o.mono ?_;rintro e w4 ⟨⟨A4,c4,rfl,pc⟩,eY,MJ⟩;simp only at pc eY|-;have nA:=bD (ST.o.step MJ eY);have qO:=bD pc;have xy:Hy (E<W.heap.size):=ST.o.hE.lt;have HSR:Hy (w.heap.size+1<W.heap.size):=ST.o.hR.lt;have HWS:Hy (w.heap.size<=W.heap.size):=ST.o.hg.size;clear pc eY MJ HS;clear e0 e1 e2 e3 e4 e5 e6 r0 r1 r2 r3 r4 r5 r6 q0 q1 q2 q3 q4 q5 q6 t0 t1 t2 c2 f2;have e6:=nA.o.hE.cell 6;have q6:=nA.o.hE.frozen 6;go_upto_region 18 with(fail)
        have fV:=bD (nA.o.ap0 6 (.slice A4 zl.length c4));have ac5:=bF (bR w4 (some E)) (p:=⟨E,6,none⟩) (.inl rfl) (.slice A4 zl.length c4);generalize w4.setCell ⟨E,6,none⟩ (.slice A4 zl.length c4)=W5 at fV ac5|-;have gd:Hy (zB w W5 b E #[.int .i64 kd,.string tx,.slice Av bK.length cv] #[.int .i64 xk,.string (bs xt),.string (bs xs),.string (bs xa),.bool xb,.string (bs xu),.slice A4 zl.length c4] #[.slice Al nl cl,.int .i64 zi,.int .i64 ze]):=
         ⟨fV.o.hT,fV.o.hR,fV.o.hE,fV.o.hB,fV.o.hg,fV.o.hl,fV.o.hb⟩
        have ay7:=bD ac5;clear nA fV e6 q6 ac5;have e6:=gd.o.hE.cell 6;have q6:=gd.o.hE.frozen 6;have e0:=gd.o.hE.cell 0;by_cases Bk:xk=11
        ·have ay8:(xk==11)=true:=by rw[Bk];rfl
         have HR:Hy (BR=(.mk xk xt xs xa xb xu [],ze,zi)):=by rw[Hy,j4.o,ae Bk]
         clear Bk;go_upto_region 20 with(fail)
         have jI:=bD (gd.o.ap0 6 (.slice none 0 0));generalize W5.setCell ⟨E,6,none⟩ (.slice none 0 0)=W6 at jI|-;have kD:Hy (zB w W6 b E #[.int .i64 kd,.string tx,.slice Av bK.length cv] #[.int .i64 xk,.string (bs xt),.string (bs xs),.string (bs xa),.bool xb,.string (bs xu),.slice none 0 0] #[.slice Al nl cl,.int .i64 zi,.int .i64 ze]):=
          ⟨jI.o.hT,jI.o.hR,jI.o.hE,jI.o.hB,jI.o.hg,jI.o.hl,jI.o.hb⟩
         clear gd jI e0 e6 q6;obtain⟨e0,e1,e2,e3,e4,e5,e6⟩:=ph kD.o.hE;obtain⟨r0,r1,r2,r3,r4,r5,r6⟩:=ph kD.o.hR;obtain⟨q0,q1,q2,q3,q4,q5,q6⟩:=zE kD.o.hR;go_wp2_with fail;refine ag (dx rfl kD.o.fin.1) rfl ?_;rw[HR.o];exact⟨⟨none,0,rfl,cS⟩,kD.o.fin.2.1,kD.o.fin.2.2.1⟩
        ·have ay8:(xk==11)=false:=ai.2 Bk;have HR:Hy (BR=(.mk xk xt xs xa xb xu zl,ze,zi)):=by rw[Hy,j4.o,aa Bk]
         clear Bk e0 e6 q6;obtain⟨e0,e1,e2,e3,e4,e5,e6⟩:=ph gd.o.hE;obtain⟨r0,r1,r2,r3,r4,r5,r6⟩:=ph gd.o.hR;obtain⟨q0,q1,q2,q3,q4,q5,q6⟩:=zE gd.o.hR;go_wp2_with fail;refine ag (dx rfl gd.o.fin.1) rfl ?_;rw[HR.o];refine⟨⟨A4,c4,rfl,?_⟩,gd.o.fin.2.1,gd.o.fin.2.2.1⟩;have zS:GR W5 (fun g=>W.heap.size<=g) (.row 7 (zl.map Elem.gv)) [.slice A4 zl.length c4]:=
          GR.mono (fun _ h=>h) (fun g hg bW=>ay7.o.block g bW (fun e=>by injection e with e;have:=xy.o;omega)) _ _ qO.o
         exact GR.mono (fun g hg=>au HWS.o hg) (fun g hg bW=>gd.o.fin.2.2.2.block g bW (fun e=>by injection e with e;have:=HSR.o;omega)) _ _ zS
end Go.Proofs.YtejafaaihodehaaGreatDoor
