/- Part 14. -/
import Derived.Test.YtejafaaihodehaaGreatDoorZ12
import Derived.Test.YtejafaaihodehaaGreatDoorZ13
set_option linter.all false
set_option maxRecDepth 100000
set_option maxHeartbeats 8000000
namespace Go.Proofs.YtejafaaihodehaaGreatDoor
open Go Go.RowKit Tryz
theorem TR{u:Level}{r:List Level}{t:bG}{q:Ca}(h:eW t.text=some q)(ha:¬q.alone=decide (t.kind=3)):fw (u::r) t=(u::r,40):=by
 unfold fw;simp only[h];rw[ae ha]
theorem Lb{u:Level}{r:List Level}{t:bG}{q:Ca}(h:eW t.text=some q)(ha:q.alone=decide (t.kind=3))(he:fv q.kind (fi q.kind) [] t.bK=none):fw (u::r) t=(u::r,41):=by
 unfold fw;simp only[h];rw[aa (fun e=>e ha),he]
theorem TS{u:Level}{r:List Level}{t:bG}{q:Ca}{e:Elem}(h:eW t.text=some q)(ha:q.alone=decide (t.kind=3))(he:fv q.kind (fi q.kind) [] t.bK=some e)(hn:kt q.kind e=false):fw (u::r) t=(u::r,41):=by
 unfold fw;simp only[h];rw[aa (fun e=>e ha),he];simp only;rw[ae hn]
theorem TT{u:Level}{r:List Level}{t:bG}{q:Ca}{e:Elem}(h:eW t.text=some q)(ha:q.alone=decide (t.kind=3))(he:fv q.kind (fi q.kind) [] t.bK=some e)(hn:kt q.kind e=true)(hf:jO u.e q.kind q.ej=false):fw (u::r) t=(u::r,42):=by
 unfold fw;simp only[h];rw[aa (fun e=>e ha),he];simp only;rw[aa (by simp[hn]),ae hf]
theorem TU{u:Level}{r:List Level}{t:bG}{q:Ca}{e:Elem}(h:eW t.text=some q)(ha:q.alone=decide (t.kind=3))(he:fv q.kind (fi q.kind) [] t.bK=some e)(hn:kt q.kind e=true)(hf:jO u.e q.kind q.ej=true)(cg:q.alone=true):fw (u::r) t=(kO (u::r) (gq q.kind e),0):=by
 unfold fw;simp only[h];rw[aa (fun e=>e ha),he];simp only;rw[aa (by simp[hn]),aa (by simp[hf]),ae cg]
theorem TW{u:Level}{r:List Level}{t:bG}{q:Ca}{e:Elem}(h:eW t.text=some q)(ha:q.alone=decide (t.kind=3))(he:fv q.kind (fi q.kind) [] t.bK=some e)(hn:kt q.kind e=true)(hf:jO u.e q.kind q.ej=true)(cg:q.alone=false)(hl:16<(u::r).length):fw (u::r) t=(u::r,5):=by
 unfold fw;simp only[h];rw[aa (fun e=>e ha),he];simp only;rw[aa (by simp[hn]),aa (by simp[hf]),aa (by simp[cg]),ae hl]
theorem TX{u:Level}{r:List Level}{t:bG}{q:Ca}{e:Elem}(h:eW t.text=some q)(ha:q.alone=decide (t.kind=3))(he:fv q.kind (fi q.kind) [] t.bK=some e)(hn:kt q.kind e=true)(hf:jO u.e q.kind q.ej=true)(cg:q.alone=false)(hl:¬16<(u::r).length):fw (u::r) t=(⟨gq q.kind e,t.text⟩::u::r,0):=by
 unfold fw;simp only[h];rw[aa (fun e=>e ha),he];simp only;rw[aa (by simp[hn]),aa (by simp[hf]),aa (by simp[cg]),aa hl]
theorem YA:kJ prog 113 118 8 120:=by
 obtain⟨i0,hi,zR,rq,vF⟩:=info_parts (show(prog.info? 118).map (fun i=>(i.zero,i.size,i.bytes))=some (some (.agg #[.int .i64 0,.string ⟨#[]⟩,.string ⟨#[]⟩,.string ⟨#[]⟩,.bool false,.string ⟨#[]⟩,.slice none 0 0,.string ⟨#[]⟩]),8,120) by kernel_rfl);exact⟨i0,_,underlying113,hi,zR,rq,vF,rfl,by omega⟩
theorem Aj{k:Int}{l:List bY}{e:Elem}(h:fv k (fi k) [] l=some e):(gq k e).bE=[]:=by
 unfold gq;rw[Elem.yz,(qC h).2];rfl
theorem Lc{w wf w4 w5:World}{base B sb cap g qW:Nat}{r:List Level}{u x:Level}{kvs:List Value}{own:Nat->Option Nat}
 (eo:base<=w.heap.size) (hB:base<=B) (hW:Below w.heap.size w wf) (h:FC wf base B (.slice (some ⟨sb,0,none⟩) (r.length+1) cap) (r.reverse++[u]) kvs own) (hx:x.e.bE=[])
 (hb:Below wf.heap.size wf w4) (ib:w5.ownsRow base 118 8 (.slice (some ⟨g,0,none⟩) (r.length+1+1) qW) (r.length+1+1) (fD (r.reverse++[u]) kvs++ik x (.slice none 0 0)))
 (cO:w4.grownBy w5 (some sb)) (fG:some sb=some g\/g=w4.heap.size):uz base B (.slice (some ⟨sb,0,none⟩) (r.length+1) cap) own (x::u::r,0) w (.returned (.int .i64 0)) (w5.setCell ⟨B,0,none⟩ (.slice (some ⟨g,0,none⟩) (r.length+1+1) qW)):=by
 have fH:(r.reverse++[u]).length=r.length+1:=by simp
 have TG:=h.yH.below hb;have hs:=hb.size;have Yw:=h.iz.lt;have E5:sb≠B:=fun e=>h.ne (by rw[e];rfl);have ai6:=(h.yH.row.lt sb rfl);have hgB:g≠B:=by
  rcases fG with e|e
  ·injection e with e;subst e;exact E5
  ·omega
 have hp:=J4.push (x:=x) TG hx cO (by rw[fH];exact ib) fG;rw[fH]at hp;have zS:w5.grownBy (w5.setCell ⟨B,0,none⟩ (.slice (some ⟨g,0,none⟩) (r.length+1+1) qW)) (some B):=bF (p:=⟨B,0,none⟩) (bR _ _) (.inl rfl) _;have Io:=hp.kept zS (fun k hk=>by injection hk with hk;subst hk;exact⟨h.free,fun e=>hgB (ar e)⟩);have FA:=((h.iz.below hb Yw).grown cO (fun e=>E5 (ar e).symm)).cL 0 (.slice (some ⟨g,0,none⟩) (r.length+1+1) qW);refine⟨rfl,⟨_,kvs++[.slice none 0 0],own,⟨FA,?_,h.free,fun e=>hgB (ar e)⟩,?_⟩,?_⟩
 ·have e:(x::u::r,(0:Int)).1.reverse=r.reverse++[u]++[x]:=by simp
  rw[e];exact Io
 ·intro k hk hm _;obtain⟨m1,m2,m3⟩:=yJ hm;have nG:k≠sb:=fun e=>m2 (by rw[e];rfl);have hkf:=br hk hW.size;refine⟨(Below.heap_setCell w5 ⟨B,0,none⟩ _ k m3).trans ((cO.block k (br hkf hb.size) (fun e=>nG (ar e))).trans ((hb.block k hkf).trans (hW.block k hk))),?_⟩;rintro (e|e|e)
  ·exact e m1
  ·have e:g=k:=ar e;rcases fG with e2|e2
   ·have e2:sb=g:=ar e2;omega
   ·omega
  ·exact m3 e
 ·have h1:Below base w w4:=(hW.mono eo).trans (hb.mono (by have:=hW.size;omega));have h2:Below base w4 w5:=bN cO (by have:=hW.size;omega) (fun k hk=>by injection hk with hk;omega);exact(h1.trans h2).setCell (p:=⟨B,0,none⟩) hB _
theorem QY(k:Int)(args:Array Value)(W:World):(callFunc (gQ k) args).run prog W=.ok (.enter (gQ k) args) W:=by
 unfold gQ
 repeat' split
 all_goals kernel_rfl
theorem QZ(k:Int)(args:Array Value)(W:World):(callFunc (gR k) args).run prog W=.ok (.enter (gR k) args) W:=by
 unfold gR
 repeat' split
 all_goals kernel_rfl
theorem I4{kd:Int}{el:Elem}{seen l:List bY}{p:bY}(h:seen.any (fun x=>x.name==p.name)=true):fv kd el seen (p::l)=none:=by
 unfold fv;rw[ae h]
theorem Q0{kd:Int}{el:Elem}{seen l:List bY}{p:bY}(h:seen.any (fun x=>x.name==p.name)=false)(ht:kC kd el p.name p.value=none):fv kd el seen (p::l)=none:=by
 unfold fv;rw[aa (by rw[h];decide),ht]
theorem NU{kd:Int}{el e2:Elem}{seen l:List bY}{p:bY}(h:seen.any (fun x=>x.name==p.name)=false)(ht:kC kd el p.name p.value=some e2):fv kd el seen (p::l)=fv kd e2 (seen++[p]) l:=by
 rw[fv,aa (by rw[h];decide),ht]
theorem Bn{base B:Nat}{v:Value}{r:List Level}{u:Level}{kvs:List Value}{own:Nat->Option Nat}{F:Nat->Prop}(t:bG)(av:Value)(w:World)(h:FC w base B v (r.reverse++[u]) kvs own)(hr:r.length<=100)
 (hk:u.e.bE.length<=10000) (hB:base<=B) (ht:t.text.length<=100000000) (hav:GR w F (.row 2 (t.bK.map bY.gv)) [av]) (cg:t.bK.length<=100000):
 Calls prog 66 #[.pointer (some ⟨B,0,none⟩),.agg #[.int .i64 t.kind,.string (bs t.text),av]] w (uz base B v own (fw (u::r) t) w):=by
 have hs:t.text.length<=maxLen:=by unfold maxLen;omega
 obtain⟨AA,ac,rfl,-,-,-⟩:=dV hav;have HAV:=bD hav;clear hav;obtain⟨av,hAV⟩:∃av,av=Value.slice AA t.bK.length ac:=⟨_,rfl⟩;rw[<-hAV];have aj3:=bD hAV;clear hAV;obtain⟨rk,ra,ri,rf,rg,hRV,hf1,mn,hRQ⟩:=De t.text;obtain⟨w0,SL⟩:∃w0,w0=w.alloc (.cells #[.int .i64 t.kind,.string (bs t.text),av] 75):=⟨_,rfl⟩;have hx:bL w0 w.heap.size 75 #[.int .i64 t.kind,.string (bs t.text),av]:=by rw[SL];exact bL.new w _ _
 have x1:=hx.cell 1;have Yy:w0.heap.size=w.heap.size+1:=by rw[SL,size_alloc]
 have HW0:=bD SL;have xB:=bD Yy;have HRQ:=bD hRQ;have CX:=bD hRV;have HH:=bD h;clear hRQ hRV h;go_enter func66,ntmps66;clear SL;go_upto_region 1 with(fail)
 rw[<-HW0.o];go_cut [5,6]from 11 to 104 (fun rv iv wx=>∃R:Nat,rv=.pointer (some ⟨R,0,none⟩)/\iv=.bool (eW t.text).isSome/\Hy (bL wx R 151 #[.int .i64 rk,.bool ra,.int .i64 ri,rf,rg])/\Hy (Below w0.heap.size w0 wx))
 case first=>
  have dh:bL w0.drew w.heap.size 75 #[.int .i64 t.kind,.string (bs t.text),av]:=hx;refine aL (S:=(fun w'=>bL w' w.heap.size 75 #[.int .i64 t.kind,.string (bs t.text),av])) (by kernel_rfl) ?_;change wpAnyH _ _ _ _ _ _ _ _ (World.drew _);refine mO 1 ?_ dh ?_ ?_;rotate_left
  ·(intro w_ cY;have s1:=bL.cell cY 1;go_simp;try with_reducible rfl)
  refine mO 2 ?_ dh ?_ ?_;rotate_left
  ·(intro w_ cY;have s1:=bL.cell cY 1;go_simp;try with_reducible rfl)
  refine bC (rs:=[0,7]) (by kernel_rfl) (by simp) ?_;refine AllReadyH.cons rfl (fun K_ bP=>?_) (AllReadyH.cons rfl (fun K_ bP=>?_) AllReadyH.nil)
  ·go_simp;refine(oB w0.drew).mono ?_;rintro en w1 ⟨rfl,hM,h1⟩;have zX:w0.drew.heap.size=w.heap.size+1:=xB.out;rw[zX]at hM|-;obtain⟨mb,CB⟩:∃mb,mb=w.heap.size+1:=⟨_,rfl⟩;rw[<-CB]at hM|-;have pX:bL w1 w.heap.size 75 #[.int .i64 t.kind,.string (bs t.text),av]:=bL.below dh h1 (bL.lt dh);refine bP.out _ _ (by exact pX) fun _=>?_;clear bP K_;clear CB;refine mI (S':=fun w'=>bL w' w.heap.size 75 #[.int .i64 t.kind,.string (bs t.text),av]/\w'.ownsMap prog 9 mX mb 11 nZ) (fun _ h=>h.1) _ _ _ _ ?_;refine mO 3 ?_ ⟨pX,hM⟩ ?_ ?_;rotate_left
   ·(intro w_ cY;have hl:(Instr.lookup 153 (.map (some mb)) (.string (bs t.text)) true).run prog w_=.ok (.tuple #[.agg #[.int .i64 rk,.bool ra,.int .i64 ri,rf,rg],.bool (eW t.text).isSome]) w_:=by(rw[<-CX.o];exact pW cY.2 hs true)
     go_simp;try with_reducible rfl)
   go_simp;refine dB 4 ⟨pX,hM⟩ ?_;refine dB 5 ⟨pX,hM⟩ ?_;refine dB 6 ⟨pX,hM⟩ ?_;have cg:Below w1.heap.size w1 (w1.alloc (.cells #[.int .i64 0,.bool false,.int .i64 0,.nilFunc,.nilFunc] 151)):=cU _ _;have hS2:=pX.below cg pX.lt;have hM2:=hM.alloc (.cells #[.int .i64 0,.bool false,.int .i64 0,.nilFunc,.nilFunc] 151);refine fr 7 (fun K_ bP=>?_);go_simp;refine bP.out _ _ (by exact⟨hS2,hM2⟩) fun _=>?_;clear bP K_;have zb:bL (w1.alloc (.cells #[.int .i64 0,.bool false,.int .i64 0,.nilFunc,.nilFunc] 151)) w1.heap.size 151 #[.int .i64 0,.bool false,.int .i64 0,.nilFunc,.nilFunc]:=bL.new w1 _ _;have sf:∀(W:World) (a:Addr) (m:Mode),(store a rf m).run prog W=stored prog W a rf m:=fun W a m=>run_store _ W a rf m hf1;have sg:∀(W:World) (a:Addr) (m:Mode),(store a rg m).run prog W=stored prog W a rg m:=fun W a m=>run_store _ W a rg m mn;obtain⟨z0,z1,z2,z3,z4⟩:=kK zb;obtain⟨y0,y1,y2,y3,y4⟩:=xV zb;refine fr 8 (fun K_ bP=>?_);go_simp;have Cd:Below w1.heap.size w1 (w1.alloc (.cells #[.int .i64 rk,.bool ra,.int .i64 ri,rf,rg] 151)):=cU _ _;have wz:=pX.below Cd pX.lt;have NQ:=hM.alloc (.cells #[.int .i64 rk,.bool ra,.int .i64 ri,rf,rg] 151);refine bP.out _ _ (by exact⟨wz,NQ⟩) fun _=>?_;clear bP K_;refine mO 9 ?_ (by exact⟨wz,NQ⟩) ?_ ?_;rotate_left
   ·(intro w_ cY;clear cY;go_simp;try with_reducible rfl)
   refine aJ (by kernel_rfl) ?_ _;go_wp2_with fail;go_meet
   case rel=>exact⟨_,rfl,rfl,bL.new w1 _ _,(below_drewN (aF _ _) 1).trans ((h1.mono (by rw[xB.out];exact Nat.le_of_eq zX.symm)).trans (Cd.mono (by have:=h1.size;omega)))⟩
  ·go_simp;have sK:Below w0.heap.size w0 (w0.alloc (.cells #[.int .i64 0,.bool false,.int .i64 0,.nilFunc,.nilFunc] 151)).drew:=(cU _ _).drew;have hA:=bL.below (B:=w0.heap.size) hx sK hx.lt;have zb0:bL (w0.alloc (.cells #[.int .i64 0,.bool false,.int .i64 0,.nilFunc,.nilFunc] 151)).drew (w.heap.size+1) 151 #[.int .i64 0,.bool false,.int .i64 0,.nilFunc,.nilFunc]:=by
    rw[<-xB.out];exact bL.new w0 _ _
   have lQ:(w0.alloc (.cells #[.int .i64 0,.bool false,.int .i64 0,.nilFunc,.nilFunc] 151)).drew.heap.size=w.heap.size+1+1:=by
    show(w0.alloc _).heap.size=_
    rw[size_alloc,xB.out]
   have xy:=bD lQ;clear lQ;refine bP.out _ _ (by exact hA) fun _=>?_;clear bP K_;generalize(w0.alloc (.cells #[.int .i64 0,.bool false,.int .i64 0,.nilFunc,.nilFunc] 151)).drew=wa at*;refine fr 0 (fun K_ bP=>?_);go_simp;refine(oB wa).mono ?_;rintro en w1 ⟨rfl,hM,h1⟩;obtain⟨mb,CB⟩:∃mb,mb=wa.heap.size:=⟨_,rfl⟩;rw[<-CB]at hM|-;have HMB:Hy (mb≠w.heap.size+1):=by have:=xy.o;rw[Hy,CB];omega
   clear CB;have pX:bL w1 w.heap.size 75 #[.int .i64 t.kind,.string (bs t.text),av]:=bL.below hA h1 (bL.lt hA);have zb:bL w1 (w.heap.size+1) 151 #[.int .i64 0,.bool false,.int .i64 0,.nilFunc,.nilFunc]:=bL.below zb0 h1 (bL.lt zb0);refine bP.out _ _ (by exact pX) fun _=>?_;clear bP K_;refine mI (S':=fun w'=>bL w' w.heap.size 75 #[.int .i64 t.kind,.string (bs t.text),av]/\w'.ownsMap prog 9 mX mb 11 nZ) (fun _ h=>h.1) _ _ _ _ ?_;refine mO 3 ?_ ⟨pX,hM⟩ ?_ ?_;rotate_left
   ·(intro w_ cY;have hl:(Instr.lookup 153 (.map (some mb)) (.string (bs t.text)) true).run prog w_=.ok (.tuple #[.agg #[.int .i64 rk,.bool ra,.int .i64 ri,rf,rg],.bool (eW t.text).isSome]) w_:=by(rw[<-CX.o];exact pW cY.2 hs true)
     go_simp;try with_reducible rfl)
   go_simp;refine dB 4 ⟨pX,hM⟩ ?_;refine dB 5 ⟨pX,hM⟩ ?_;refine dB 6 ⟨pX,hM⟩ ?_;have sf:∀(W:World) (a:Addr) (m:Mode),(store a rf m).run prog W=stored prog W a rf m:=fun W a m=>run_store _ W a rf m hf1;have sg:∀(W:World) (a:Addr) (m:Mode),(store a rg m).run prog W=stored prog W a rg m:=fun W a m=>run_store _ W a rg m mn;obtain⟨z0,z1,z2,z3,z4⟩:=kK zb;obtain⟨y0,y1,y2,y3,y4⟩:=xV zb;refine fr 8 (fun K_ bP=>?_);go_simp;have wz:bL (Ai w1 (w.heap.size+1) (.int .i64 rk) (.bool ra) (.int .i64 ri) rf rg) w.heap.size 75 #[.int .i64 t.kind,.string (bs t.text),av]:=K3 pX (by omega) _ _ _ _ _;have NQ:(Ai w1 (w.heap.size+1) (.int .i64 rk) (.bool ra) (.int .i64 ri) rf rg).ownsMap prog 9 mX mb 11 nZ:=K6 hM HMB.o _ _ _ _ _;have ZW:bL (Ai w1 (w.heap.size+1) (.int .i64 rk) (.bool ra) (.int .i64 ri) rf rg) (w.heap.size+1) 151 #[.int .i64 rk,.bool ra,.int .i64 ri,rf,rg]:=((((zb.cL 0 _).cL 1 _).cL 2 _).cL 3 _).cL 4 _;have Iv:Below w0.heap.size w0 (Ai w1 (w.heap.size+1) (.int .i64 rk) (.bool ra) (.int .i64 ri) rf rg):=Df (sK.trans (h1.mono sK.size)) (by rw[xB.out];omega) _ _ _ _ _;unfold Ai at wz NQ ZW Iv;refine bP.out _ _ (by exact⟨wz,NQ⟩) fun _=>?_;clear bP K_ z0 z1 z2 z3 z4 y0 y1 y2 y3 y4;refine mO 9 ?_ (by exact⟨wz,NQ⟩) ?_ ?_;rotate_left
   ·(intro w_ cY;clear cY;go_simp;try with_reducible rfl)
   refine aJ (by kernel_rfl) ?_ _;have ny:=bD ZW;have gI:=bD Iv;clear ZW Iv wz NQ;go_wp2_with fail;go_meet
   case rel=>exact⟨_,rfl,rfl,ny.o,gI.o⟩
 case rest=>
  obtain⟨R,rfl,YB,HR,HB⟩:=hcut;have TP:Below w.heap.size w w0:=by rw[HW0.o];exact cU _ _
  have Wc:=TP.trans (HB.o.mono (by rw[xB.out];omega));have hX:bL wc w.heap.size 75 #[.int .i64 t.kind,.string (bs t.text),av]:=bL.below hx HB.o hx.lt;have eo:base<=w.heap.size:=au hB (Nat.le_of_lt HH.o.iz.lt);have aj4:=HR.o.lt;have hRX:Hy (w.heap.size<wc.heap.size/\R<wc.heap.size/\R≠w.heap.size):=⟨hX.lt,aj4,fun e=>by
   have e1:=HR.o;rw[e]at e1;have e2:=e1.symm.trans hX;simp at e2⟩
  have CA:=bD Wc;have HX:=bD hX;clear x1 hx Yy Wc TP hX aj4;cases hq:eW t.text with
  |none=>
   have HF:Hy (fw (u::r) t=(u::r,40)):=by unfold Hy fw;rw[hq]
   rw[hq]at YB;have YB:u6=.bool false:=YB;subst YB;clear hq;go_wp2_with fail;go_ret;rw[HF.o];exact gS (HH.o.below CA.o) (aF _ _) CA.o eo
  |some q=>
   obtain⟨rfl,rfl,rfl,rfl,rfl⟩:=HRQ.o q hq;have HQ:=bD hq;rw[hq]at YB;have YB:u6=.bool true:=YB;subst YB;clear hq;obtain⟨y0,y1,y2⟩:=nw HX.o;have r0:=HR.o.cell 0;have r1:=HR.o.cell 1;by_cases ha:q.alone=decide (t.kind=3)
   ·have hb:(q.alone==(t.kind==3))=true:=by
     rw[ha,beq_iff_eq];by_cases h3:t.kind=3<;>simp[h3]
    have HA:=bD ha;clear ha;go_upto_region 5 with(fail)
    obtain⟨w3,tE⟩:∃w3,w3=wc.alloc (.cells #[.int .i64 q.kind,.string ⟨#[]⟩,.string ⟨#[]⟩,.string ⟨#[]⟩,.bool false,.string ⟨#[]⟩,.slice none 0 0] 62):=⟨_,rfl⟩;have hE:jC w3 wc.heap.size (fi q.kind):=by rw[tE];exact bL.new wc _ _
    have Iv:Below wc.heap.size wc w3:=by rw[tE];exact cU _ _
    rw[<-tE];have ry:=bD (HX.o.below Iv HX.o.lt);have yp:=bD (HR.o.below Iv HR.o.lt);have KZ:=bD (CA.o.trans (Iv.mono CA.o.size));have P0:Hy (w.heap.size<wc.heap.size/\R<wc.heap.size):=⟨hRX.out.1,hRX.out.2.1⟩;have HE:=bD hE;clear tE hE Iv HX HR CA y0 y1 y2 r0 r1 hRX;generalize wc.heap.size=E at*;have y2:=ry.o.cell 2;rw[aj3.o]at y2;clear hb;go_wp2_with fail;go_loopw [34] (fun i wr=>∃(k:Nat) (el:Elem),k<=t.bK.length/\i=.int .i64 k/\Hy (fv q.kind (fi q.kind) [] t.bK=fv q.kind el (t.bK.take k) (t.bK.drop k))/\Hy (jC wr E el)/\Hy (w3.grownBy wr (some E)))
     (fun i wr=>t.bK.length-(intOf i).toNat)
    case atStart=>exact⟨0,fi q.kind,ax _,rfl,rfl,HE,bR _ _⟩
    case round=>
     obtain⟨k,el,tW,rfl,WU,j4,HG⟩:=hrel;have hBr:Below w.heap.size w wr:=KZ.o.trans (bN HG.o KZ.o.size (fun k hk=>by injection hk with hk;have:=P0.o.1;omega));have hXr:=ry.o.grown HG.o (fun e=>by have e:=ar e;have:=P0.o.1;omega);have hRr:=yp.o.grown HG.o (fun e=>by have e:=ar e;have:=P0.o.2;omega);have cO:=HAV.o.below hBr;by_cases bW:k<t.bK.length
     ·obtain⟨A',c',hv',sJ,aC9,dS⟩:=dV cO;injection hv' with e1 e2 e3
      subst e1 e3;obtain⟨b,off,rfl,-,dS⟩:=dS (by rintro e;rw[e]at bW;simp at bW);obtain⟨p0,p1⟩:=dS k bW;have GB:t.bK.drop k=t.bK[k]::t.bK.drop (k+1):=aE bW;have so:t.bK.take (k+1)=t.bK.take k++[t.bK[k]]:=aC bW;rw[GB]at WU;have WV:=Kw cO k (by rw[ah];omega);rw[<-List.map_take]at WV;have mq:=bD so;clear so;generalize t.bK[k]=p at*;have nE:(0:Int)<=(k:Int):=by omega
      have fA:(k:Int)<=(ac:Int):=by omega
      have HGT:=bD WV;have Z1:=bD hRr;have HXr:=bD hXr;have Z2:=bD hBr;clear GB cO dS WV hRr hXr hBr;go_upto_region 8 with(fail)
      obtain⟨w5,tF⟩:∃w5,w5=wr.alloc (.cells #[.string (bs p.name),.string (bs p.value)] 156):=⟨_,rfl⟩;have hP:bL w5 wr.heap.size 156 #[.string (bs p.name),.string (bs p.value)]:=by rw[tF];exact bL.new wr _ _
      have I5:Below wr.heap.size wr w5:=by rw[tF];exact cU _ _
      rw[<-tF];have x2:=(HXr.o.below I5 HXr.o.lt).cell 2;rw[aj3.o]at x2;have au1:=bD (HGT.o.below I5);have pA:=bD (Z1.o.below I5 Z1.o.lt);have HP:=bD hP;have kf:=bD I5;clear tF hP I5 p0 p1 Z1;go_upto_region 9 with(refine(xE wr.heap.size p (t.bK.take k) _ F w5 (HP.o.cell 0) au1.o (by rw[ay];omega)).mono ?_;rintro en w6 ⟨rfl,h6⟩)
      obtain⟨tw,htw⟩:∃tw,tw=(t.bK.take k).any (fun x=>x.name==p.name):=⟨_,rfl⟩;rw[<-htw];have HTW:=bD htw.symm;clear htw;have hB6:Below w.heap.size w w6:=Z2.o.trans ((kf.o.mono Z2.o.size).trans (h6.mono (au Z2.o.size kf.o.size)));have tR:=bD hB6;have HW6:Hy (wr.heap.size<=w5.heap.size/\Below wr.heap.size wr w6):=⟨kf.o.size,kf.o.trans (h6.mono kf.o.size)⟩;cases tw with
      |true=>
       have qq:=bD (Lb (u:=u) (r:=r) HQ.o HA.o (WU.o.trans (I4 HTW.o)));clear x2 y2 hB6 h6;go_wp2_with fail;go_ret;rw[qq.o];exact gS (HH.o.below tR.o) (aF _ _) tR.o eo
      |false=>
       have hP6:=HP.o.below h6 HP.o.lt;have hR6:=pA.o.below h6 pA.o.lt;have hE6:jC w6 E el:=bL.below j4.o HW6.o.2 (bL.lt j4.o);have p0:=hP6.cell 0;have p1:=hP6.cell 1;have r3:=hR6.cell 3;have rF:=QY q.kind;have yN:=bD hE6;clear x2 y2 hB6 h6 hP6 hR6 hE6 HP pA;go_wp2_with fail;refine(KW q.kind E el p.name p.value w6 yN.o).mono ?_;rintro en w7 ⟨rfl,h7,rI⟩;cases htf:kC q.kind el p.name p.value with
       |none=>
        have qq:=bD (Lb (u:=u) (r:=r) HQ.o HA.o (WU.o.trans (Q0 HTW.o htf)));have Iw:Hy (Below w.heap.size w w7):=tR.o.trans (bN rI tR.o.size (fun k hk=>by injection hk with hk;have:=P0.o.1;omega));have hsn:(none:Option Elem).isSome=false:=rfl;clear htf h7 rI;go_wp2_with fail;go_ret;rw[qq.o];exact gS (HH.o.below Iw.o) (aF _ _) Iw.o eo
       |some e2=>
        have au2:=bD (WU.o.trans (NU HTW.o htf));have TY:=bD (h7 e2 htf);have hsn:(some e2).isSome=true:=rfl;have Zp:Hy (w3.grownBy w7 (some E)):=bU (kI HG.o HW6.o.2) rI;clear htf h7 rI;go_wp2_with fail;go_roundw
        case rel=>exact⟨k+1,e2,bW,by go_num,by rw[mq.o];exact au2.o,TY.o,Zp.o⟩
        case measure=>simp[intOf];omega
     ·have ln:k=t.bK.length:=by omega
      subst ln;have qy:fv q.kind (fi q.kind) [] t.bK=some el:=by
       rw[WU.o,bu];rfl
      have WW:=bD qy;clear qy cO;have r4:=hRr.cell 4;have NF:=QZ q.kind;have HXr:=bD hXr;have Z1:=bD hRr;have Z2:=bD hBr;clear hXr hRr hBr y2;obtain⟨e0,e1,e2,e3,e4,e5,e6⟩:=ph j4.o;go_wp2_with fail;refine(KU q.kind el (.slice none 0 0) wr).mono ?_;rintro en w8 ⟨rfl,h8⟩;have hX8:=HXr.o.below h8 HXr.o.lt;have hR8:=Z1.o.below h8 Z1.o.lt;have hE8:jC w8 E el:=bL.below j4.o h8 (bL.lt j4.o);have J8:Hy (Below w.heap.size w w8):=Z2.o.trans (h8.mono Z2.o.size);have HX8:=bD hX8;have HR8:=bD hR8;have VQ:=bD hE8;clear hX8 hR8 hE8 h8 e0 e1 e2 e3 e4 e5 e6 NF r4 HXr Z1 j4 Z2 HG;cases hn:kt q.kind el with
      |false=>
       have qq:=bD (TS (u:=u) (r:=r) HQ.o HA.o WW.o hn);clear hn;go_wp2_with fail;go_ret;rw[qq.o];exact gS (HH.o.below J8.o) (aF _ _) J8.o eo
      |true=>
       have HN:=bD hn;clear hn;have e4:=VQ.o.cell 4;have z4:=VQ.o.frozen 4;have r0:=HR8.o.cell 0;go_upto_region 14 with(fail)
       go_cut [69]from 57 to 70 (fun v wx=>v=.pointer (some ⟨E,4,none⟩)/\wx=w8.setCell ⟨E,4,none⟩ (.bool (el.fp&&decide (q.kind=2))))
       case first=>
        cases GJ:el.fp with
        |false=>
         rw[GJ]at e4;have P1:=bD GJ;clear GJ;go_wp2_with fail;go_meet
         case rel=>exact⟨rfl,by rw[P1.o];rfl⟩
        |true=>
         rw[GJ]at e4;have P1:=bD GJ;clear GJ;by_cases h2:q.kind=2
         ·have cu:(q.kind==2)=true:=by rw[h2];rfl
          have Tr:decide (q.kind=2)=true:=by rw[h2];rfl
          have Wo:=bD Tr;clear h2 Tr;go_wp2_with fail;go_meet
          case rel=>exact⟨rfl,by rw[P1.o,Wo.o];rfl⟩
         ·have cu:(q.kind==2)=false:=by rw[ai];exact h2
          have Tr:decide (q.kind=2)=false:=by simpa using h2
          have Wo:=bD Tr;clear h2 Tr;go_wp2_with fail;go_meet
          case rel=>exact⟨rfl,by rw[P1.o,Wo.o];rfl⟩
       case rest=>
        obtain⟨rfl,hwc⟩:=hcut;have xX:w8.grownBy wc (some E):=by rw[hwc];exact bF (p:=⟨E,4,none⟩) (bR _ _) (.inl rfl) _
        have hE9:jC wc E (gq q.kind el):=by
         rw[hwc];have:=VQ.o.cL 4 (.bool (el.fp&&decide (q.kind=2)));unfold jC gq;obtain⟨a1,a2,a3,a4,a5,a6,a7⟩:=el;exact this
        have lP:Hy (Below w.heap.size w wc):=J8.o.trans (bN xX J8.o.size (fun k hk=>by injection hk with hk;have:=P0.o.1;omega));have hR9:=HR8.o.grown xX (fun e=>by have e:=ar e;have:=P0.o.2;omega);have qv:=bD (HX8.o.grown xX (fun e=>by have e:=ar e;have:=P0.o.1;omega));have Z3:=bD (HH.o.below lP.o);have GK:=bD hE9;have HR9:=bD hR9;have r0:=hR9.cell 0;have r2:=hR9.cell 2;clear hwc xX hE9 hR9 e4 z4 HX8 HR8 VQ J8;go_wp2_with fail;refine(NO q.kind q.ej wc Z3.o (by rw[bx];omega) hk).mono ?_;rintro en wf ⟨rfl,mf,hwf⟩;have hBf:Below wc.heap.size wc wf:=by rw[hwf];exact below_drewN (aF _ _) mf
        have FH:Hy (Below w.heap.size w wf):=lP.o.trans (hBf.mono lP.o.size);have Bo:=bD (Z3.o.below hBf);have aj5:jC wf E (gq q.kind el):=bL.below GK.o hBf (bL.lt GK.o);have aj6:=HR9.o.below hBf HR9.o.lt;have Z4:=bD (qv.o.below hBf qv.o.lt);have r1:=aj6.cell 1;have WX:=bD aj5;clear hwf hBf aj5 aj6 Z3 GK HR9 qv lP r0 r2;cases hf:jO u.e q.kind q.ej with
        |false=>
         have qq:=bD (TT (u:=u) (r:=r) HQ.o HA.o WW.o HN.o hf);clear hf;go_wp2_with fail;go_ret;rw[qq.o];exact gS Bo.o (aF _ _) FH.o eo
        |true=>
         have TZ:=bD hf;clear hf;cases J7:q.alone with
         |true=>
          have qq:=bD (TU (u:=u) (r:=r) HQ.o HA.o WW.o HN.o TZ.o J7);rw[J7]at r1;clear J7;obtain⟨e0,e1,e2,e3,e4,e5,e6⟩:=ph WX.o;have B4:(gq q.kind el).bE=[]:=Aj WW.o;have Am:=bD B4;clear B4;generalize gq q.kind el=eh at*;go_wp2_with fail;refine(Ah eh (.slice none 0 0) wf Bo.o (by rw[bx];omega) hk (T:=fun _=>False) (by rw[Am.o];exact cS) (fun _ h=>h.elim) hB).mono ?_;rintro en w11 ⟨rfl,h1,h2⟩;have H1:=bD h1;have H2:=bD h2;clear h1 h2;go_wp2_with fail;go_ret;rw[qq.o];refine⟨rfl,?_,(FH.o.mono eo).trans H2.o⟩;rw[Dd];obtain⟨v6,Dg,Dh,b6,f6⟩:=H1.o;exact⟨v6,Dg,Dh,b6,(rH FH.o).trans f6 FH.o.size (fun _ _ h=>h)⟩
         |false=>
          have GL:=bD J7;rw[J7]at r1;clear J7;obtain⟨sb,cap,rfl,sJ,mz,E5,VJ⟩:=Bo.o.form;rw[bx]at*;have b0:=Bo.o.iz.cell 0;by_cases h16:16<r.length+1
          ·have qq:=bD (TW (u:=u) (r:=r) HQ.o HA.o WW.o HN.o TZ.o GL.o (by rw[ak];exact h16));have hd:decide ((16:Int)<(r.length:Int)+1)=true:=by rw[decide_eq_true_iff];omega
           go_wp2_with fail;go_ret;rw[qq.o];exact gS Bo.o (aF _ _) FH.o eo
          ·have qq:=bD (TX (u:=u) (r:=r) HQ.o HA.o WW.o HN.o TZ.o GL.o (by rw[ak];exact h16));have hd:decide ((16:Int)<(r.length:Int)+1)=false:=by rw[decide_eq_false_iff_not];omega
           have B4:(gq q.kind el).bE=[]:=Aj WW.o;have Am:=bD B4;clear B4;generalize gq q.kind el=eh at*;go_wp2_with fail;obtain⟨w4,qn⟩:∃w4,w4=(wf.alloc (.cells #[.int .i64 eh.kind,.string (bs eh.text),.string (bs eh.src),.string (bs eh.jZ),.bool eh.fp,.string (bs eh.test),.slice none 0 0,.string (bs t.text)] 118)).drew:=⟨_,rfl⟩;have eY:Below wf.heap.size wf w4:=by rw[qn];exact(cU _ _).drew
           have hs4:w4.heap.size=wf.heap.size+1:=by rw[qn];exact size_alloc _ _
           have Yz:bL w4 wf.heap.size 118 #[.int .i64 eh.kind,.string (bs eh.text),.string (bs eh.src),.string (bs eh.jZ),.bool eh.fp,.string (bs eh.test),.slice none 0 0,.string (bs t.text)]:=by rw[qn];exact bL.new wf _ _
           have hEl:=WX.o.lt;have Z5:=Z4.o.lt;have mP:=Bo.o.below eY;have hAR:IF w4 base 118 8 120 (.slice (some ⟨sb,0,none⟩) (r.length+1) cap) (r.length+1) (fD (r.reverse++[u]) kvs) ⟨wf.heap.size,0,none⟩ (ik ⟨eh,t.text⟩ (.slice none 0 0)):=by
            have ib:=mP.yH.row;rw[show(r.reverse++[u]).length=r.length+1 by simp]at ib;refine⟨ib,rfl,fun j x hx=>?_,?_,by simp only[maxLen];omega,by omega,by have:=FH.o.size;omega⟩
            ·rw[Dc,Nat.zero_add,Yz.cell];simpa[ik]using hx
            ·intro x hx;simp only[ik,List.mem_cons,List.not_mem_nil,or_false]at hx;rcases hx with rfl|rfl|rfl|rfl|rfl|rfl|rfl|rfl<;>rfl
           have dh:jC wf.drew E eh/\bL wf.drew w.heap.size 75 #[.int .i64 t.kind,.string (bs t.text),av]:=⟨WX.o,Z4.o⟩;have ki:jC w4 E eh/\bL w4 w.heap.size 75 #[.int .i64 t.kind,.string (bs t.text),av]:=⟨bL.below WX.o eY hEl,Z4.o.below eY Z5⟩;have WY:sb≠E/\sb≠w.heap.size:=by have h1:=(HH.o.yH.row.lt sb rfl).2;have h2:=P0.o.1;exact⟨by omega,by omega⟩
           have b04:=mP.iz.cell 0;have HAR:=bD hAR;have Yq:=bD qn;have qT:=bD mP;have iW:=bD eY;clear hAR qn mP Yz;refine aL (S:=(fun w'=>jC w' E eh/\bL w' w.heap.size 75 #[.int .i64 t.kind,.string (bs t.text),av])) (by kernel_rfl) ?_;change wpAnyH _ _ _ _ _ _ _ _ (World.drew _);refine dB 0 dh ?_;refine dB 1 dh ?_;refine dB 2 dh ?_;refine dB 3 dh ?_;refine mO 5 ?_ dh ?_ ?_;rotate_left
           ·(intro w_ cY;have s0:=bL.cell cY.1 0;have s1:=bL.cell cY.1 1;have s2:=bL.cell cY.1 2;have s3:=bL.cell cY.1 3;have s4:=bL.cell cY.1 4;have s5:=bL.cell cY.1 5;have s6:=bL.cell cY.1 6;go_simp;try with_reducible rfl)
           refine dB 6 dh ?_;refine mO 7 ?_ dh ?_ ?_;rotate_left
           ·(intro w_ cY;have s1:=bL.cell cY.2 1;go_simp;try with_reducible rfl)
           refine dB 8 dh ?_;refine bC (rs:=[4,9]) (by kernel_rfl) (by simp) ?_;refine AllReadyH.cons rfl (fun K_ bP=>?_) (AllReadyH.cons rfl (fun K_ bP=>?_) AllReadyH.nil)
           ·go_simp;refine bP.out _ _ (by exact dh) fun _=>?_;clear bP K_;refine fr 9 (fun K_ bP=>?_);go_simp;rw[<-Yq.o];refine bP.out _ _ (by exact ki) fun _=>?_;clear bP K_;refine fr 10 (fun K_ bP=>?_);refine HAR.o.step (by rfl) _ _ _ (by rfl) YA (by rfl) (by rfl) ?_;intro g qW w5 kR oV uy NL;have oV:w4.grownBy w5 (some sb):=oV;have uy:some sb=some g\/g=w4.heap.size:=uy;have pe:jC w5 E eh/\bL w5 w.heap.size 75 #[.int .i64 t.kind,.string (bs t.text),av]:=⟨bL.grown ki.1 oV (fun e=>WY.1 (ar e).symm),ki.2.grown oV (fun e=>WY.2 (ar e).symm)⟩;have I5:bL w5 B 115 #[.slice (some ⟨sb,0,none⟩) (r.length+1) cap,.int .i64 0]:=qT.o.iz.grown oV (fun e=>qT.o.ne (by rw[e];rfl));have T0:B≠E/\B≠w.heap.size:=by have h1:=HH.o.iz.lt;have h2:=P0.o.1;exact⟨by omega,by omega⟩
            have pA:=bD kR;have tP:=bD oV;have KS:=bD uy;clear kR oV uy;refine bP.out _ _ (by exact pe) fun _=>?_;clear bP K_;refine dB 11 pe ?_;refine dB 12 pe ?_;have q0:=I5.cell 0;have q1:=I5.frozen 0;refine fr 13 (fun K_ bP=>?_);go_simp;refine bP.out _ _ (by exact⟨bL.gf pe.1 (p:=⟨B,0,none⟩) (fun e=>T0.1 e.symm) _,pe.2.gf (p:=⟨B,0,none⟩) (fun e=>T0.2 e.symm) _⟩) fun _=>?_;clear bP K_;refine aJ (by kernel_rfl) ?_ _;go_wp2_with fail;go_ret;rw[qq.o];exact Lc (x:=⟨eh,t.text⟩) eo hB FH.o Bo.o Am.o iW.o pA.o tP.o KS.o
           ·go_simp;rw[<-Yq.o];refine bP.out _ _ (by exact ki) fun _=>?_;clear bP K_;refine fr 4 (fun K_ bP=>?_);go_simp;refine bP.out _ _ (by exact ki) fun _=>?_;clear bP K_;refine fr 10 (fun K_ bP=>?_);refine HAR.o.step (by rfl) _ _ _ (by rfl) YA (by rfl) (by rfl) ?_;intro g qW w5 kR oV uy NL;have oV:w4.grownBy w5 (some sb):=oV;have uy:some sb=some g\/g=w4.heap.size:=uy;have pe:jC w5 E eh/\bL w5 w.heap.size 75 #[.int .i64 t.kind,.string (bs t.text),av]:=⟨bL.grown ki.1 oV (fun e=>WY.1 (ar e).symm),ki.2.grown oV (fun e=>WY.2 (ar e).symm)⟩;have I5:bL w5 B 115 #[.slice (some ⟨sb,0,none⟩) (r.length+1) cap,.int .i64 0]:=qT.o.iz.grown oV (fun e=>qT.o.ne (by rw[e];rfl));have T0:B≠E/\B≠w.heap.size:=by have h1:=HH.o.iz.lt;have h2:=P0.o.1;exact⟨by omega,by omega⟩
            have pA:=bD kR;have tP:=bD oV;have KS:=bD uy;clear kR oV uy;refine bP.out _ _ (by exact pe) fun _=>?_;clear bP K_;refine dB 11 pe ?_;refine dB 12 pe ?_;have q0:=I5.cell 0;have q1:=I5.frozen 0;refine fr 13 (fun K_ bP=>?_);go_simp;refine bP.out _ _ (by exact⟨bL.gf pe.1 (p:=⟨B,0,none⟩) (fun e=>T0.1 e.symm) _,pe.2.gf (p:=⟨B,0,none⟩) (fun e=>T0.2 e.symm) _⟩) fun _=>?_;clear bP K_;refine aJ (by kernel_rfl) ?_ _;go_wp2_with fail;go_ret;rw[qq.o];exact Lc (x:=⟨eh,t.text⟩) eo hB FH.o Bo.o Am.o iW.o pA.o tP.o KS.o
   ·have hb:(q.alone==(t.kind==3))=false:=by
     rw[ai];intro e;apply ha;rw[e];by_cases h3:t.kind=3<;>simp[h3]
    have qq:=bD (TR (u:=u) (r:=r) HQ.o ha);clear ha;go_wp2_with fail;go_ret;rw[qq.o];exact gS (HH.o.below CA.o) (aF _ _) CA.o eo
end Go.Proofs.YtejafaaihodehaaGreatDoor
