/- Part 15. -/
import Derived.Test.YtejafaaihodehaaGreatDoorZ14
set_option linter.all false
set_option maxRecDepth 100000
set_option maxHeartbeats 8000000
namespace Go.Proofs.YtejafaaihodehaaGreatDoor
open Go Go.RowKit Tryz
def CC(W:World)(g o:Nat)(c0 c1 c2:Value):World:=((W.setCell ⟨g,o,none⟩ c0).setCell ⟨g,o+1,none⟩ c1).setCell ⟨g,o+2,none⟩ c2
theorem fW.Z6{w:World}{F:Nat->Prop}{sz:Nat}{l:List GV}{xs:List Value}(h:fW w F sz l xs){i:Nat}(hi:i<l.length):
 ∃a cs b,xs=a++(cs++b)/\a.length=i*sz/\cs.length=sz/\fW w F sz (l.take i) a/\fW w F sz (l.drop (i+1)) b:=by
 have e:l=l.take i++(l[i]::l.drop (i+1)):=by rw[<-aE hi,bt]
 rw[e]at h;obtain⟨a,b',rfl,h1,h2⟩:=fW.split h;obtain⟨cs,b,rfl,h3,h4,h5⟩:=gF.1 h2;refine⟨a,cs,b,rfl,?_,h3,h1,h5⟩;rw[h1.length,ay,Nat.min_eq_left (by omega)]
theorem T1{w:World}{base:Nat}{e:TypeId}{G:Nat->Prop}{g n c i:Nat}{l:List GV}(h:b8 w base e 3 G (.slice (some ⟨g,0,none⟩) n c) l)(hn:n=l.length)(hi:i<l.length)(x:GV)(c0 c1 c2:Value)
 (hx:GR w (fun k=>G k/\some k≠some g) x [c0,c1,c2]):
 b8 (CC w g (i*3) c0 c1 c2) base e 3 G (.slice (some ⟨g,0,none⟩) n c) (l.set i x)/\w.grownBy (CC w g (i*3) c0 c1 c2) (some g):=by
 subst hn;obtain⟨xs,hr,hg⟩:=h;obtain⟨a,cs,b,rfl,ha,hc,h1,h2⟩:=hg.Z6 hi;obtain⟨z0,z1,z2,rfl⟩:∃z0 z1 z2,cs=[z0,z1,z2]:=by
  match cs,hc with
  |[z0,z1,z2],_=>exact⟨z0,z1,z2,rfl⟩
 obtain⟨r0,g0⟩:=hr.stored (i*3) c0;obtain⟨r1,g1⟩:=r0.stored (i*3+1) c1;obtain⟨r2,g2⟩:=r1.stored (i*3+2) c2;have cO:w.grownBy (CC w g (i*3) c0 c1 c2) (some g):=bU (bU g0 g1) g2;refine⟨⟨a++([c0,c1,c2]++b),?_,?_⟩,cO⟩
 ·have e1:((((a++([z0,z1,z2]++b)).set (i*3) c0).set (i*3+1) c1).set (i*3+2) c2)=a++([c0,c1,c2]++b):=by
   rw[<-ha];simp
  rw[e1]at r2;rw[List.length_set];exact r2
 ·have e2:l.set i x=l.take i++(x::l.drop (i+1)):=List.set_eq_take_append_cons_drop.trans (ae hi);rw[e2];have key:fW w (fun k=>G k/\some k≠some g) 3 (l.take i++(x::l.drop (i+1))) (a++([c0,c1,c2]++b)):=
   fW.append (gF.2 ⟨_,_,rfl,rfl,hx,h2⟩) h1
  exact fW.mono (fun _ h=>h) (fun k hk bW=>cO.block k bW hk.2) 3 _ _ key
def WZ(F:Nat->Prop)(l:List bG)(w:World)(e:Ending)(w':World):Prop:=
 ∃v',e=.returned v'/\b8 w' w.heap.size 75 3 (fun g=>F g/\g<w.heap.size) v' (l.map bG.gv)/\Below w.heap.size w w'
theorem Ld(l:List bG)(v:Value)(F:Nat->Prop)(w:World)(hv:GR w F (.row 3 (l.map bG.gv)) [v])(hl:l.length<=100000):
 Calls prog 99 #[v] w (WZ F l w):=by
 obtain⟨A,c,rfl,zQ,mz,dS⟩:=iG (GR.du _ _ hv);cases A with
 |none=>
  have MY:l=[]:=bg fun e=>by
   obtain⟨b,o,h,-⟩:=dS e;cases h
  subst MY;have hq:∀W:World,(binOp BinOp.eql 54 (.slice none 0 c) (.slice none 0 0)).run prog W=.ok (.bool true) W:=fun W=>by kernel_rfl
  clear dS hv mz;go_enter func99,ntmps99;go_wp2_with fail;go_ret;exact⟨_,rfl,b8.nil _ _ _ _ _,aF _ _⟩
 |some ad=>
  have HV:=bD hv;clear dS hv mz;have dG:Below w.heap.size w (w.alloc (.cells #[] 75)):=cU _ _;have bZ:b8 (w.alloc (.cells #[] 75)) w.heap.size 75 3 (fun g=>F g/\g<w.heap.size) (.slice (some ⟨w.heap.size,0,none⟩) 0 0) []:=
   ⟨[],World.ownsRow_lit w #[] 0 (dv _) (by simp[maxLen]) (by simp),jt.2 rfl⟩
  obtain⟨news,hA⟩:=tm.IE (bytes:=48) bZ (GR.du _ _ HV.o) dG (fun k hk bW=>⟨hk,fun e=>by have e:k=w.heap.size:=ar e;omega⟩) (by simp;omega) (by omega) dG.size;simp only[aD,ah,Nat.zero_add]at hA;have HA:=bD hA;have hJ:=bD dG;have hq:∀W:World,(binOp BinOp.eql 54 (.slice (some ad) l.length c) (.slice none 0 0)).run prog W=.ok (.bool false) W:=fun W=>by kernel_rfl
  clear hA dG bZ;go_enter func99,ntmps99;go_wp2_with (at_builtin;go_loud (refine HA.o.plain rfl _ _ _ rfl nI rfl rfl ?_);intro A5 c5 w5 bZ cO fG;have HO:=bD bZ;have HG:=bD cO;clear bZ cO fG);go_ret;exact⟨_,rfl,by simpa using HO.o,hJ.o.trans (bN HG.o hJ.o.size (fun k hk=>by have hk:w.heap.size=k:=ar hk;omega))⟩
def NV(F:Nat->Prop)(l:List bG)(w:World)(e:Ending)(w':World):Prop:=∃v',e=.returned v'/\GR w' (fun g=>F g\/w.heap.size<=g) (.row 3 ((ed l).map bG.gv)) [v']/\Below w.heap.size w w'
theorem Dk(l:List bG)(k:Nat)(h:k<l.length):(l.take (k+1)).map dE++l.drop (k+1)=((l.take k).map dE++l.drop k).set k (dE l[k]):=by
 have hl:((l.take k).map dE).length=k:=by rw[ah,ay];omega
 have e:=aE h;rw[List.set_append_right _ _ (by omega),hl,Nat.sub_self,e,List.set_cons_zero,aC h,aK,aN];rfl
theorem Le(l:List bG)(k:Nat)(h:k<l.length):((l.take k).map dE++l.drop k)[k]?=some l[k]:=by
 have hl:((l.take k).map dE).length=k:=by rw[ah,ay];omega
 rw[List.getElem?_append_right (by omega),hl,Nat.sub_self];simp[h]
theorem NW(l:List bG)(k:Nat)(h:k<l.length)(hk:dE l[k]=l[k]):(l.take (k+1)).map dE++l.drop (k+1)=(l.take k).map dE++l.drop k:=by
 rw[Dk l k h,hk];apply List.ext_getElem?;intro i;rw[List.getElem?_set];split
 ·rename_i e;subst e;rw[Le l k h];have hMl:((l.take k).map dE++l.drop k).length=l.length:=by rw[af,ah,ay,aj];omega
  rw[ae (by omega)]
 ·rfl
theorem NX{w:World}{base:Nat}{e:TypeId}{G:Nat->Prop}{A:Option Addr}{n c k:Nat}{l:List bG}{t:bG}(h:b8 w base e 3 G (.slice A n c) (l.map bG.gv))(hn:n=l.length)(hk:l[k]?=some t):
 ∃g va,A=some ⟨g,0,none⟩/\n<=c/\c<=maxLen/\base<=g/\g<w.heap.size/\w.cell? ⟨g,k*3,none⟩=some (.int .i64 t.kind)/\w.cell? ⟨g,k*3+1,none⟩=some (.string (bs t.text))/\w.cell? ⟨g,k*3+2,none⟩=some va/\
  GR w (fun j=>G j/\some j≠some g) (.row 2 (t.bK.map bY.gv)) [va]/\∀j,w.frozen? ⟨g,j,none⟩=false:=by
 subst hn;obtain⟨xs,hr,hg⟩:=h;rw[ah]at hr;have tW:=(List.getElem?_eq_some_iff.1 hk).1;have rB:=hr;rcases hr.2 with⟨_,h0⟩|⟨g,cap,S7,hv,hb,hh,hn,hm,_⟩
 ·omega
 ·injection hv with e1 e2 e3
  subst e1 e3;obtain⟨cs,h1,h2,h3⟩:=hg.at_ k (by simpa using tW);have e:(l.map bG.gv)[k]'(by simpa using tW)=t.gv:=by
   rw[List.getElem_map];rw[aB tW]at hk;rw[ar hk]
  rw[e]at h1;obtain⟨va,rfl,h4⟩:=zN h1;have bW:=(rB.lt g rfl);refine⟨g,va,rfl,hn,hm,bW.1,bW.2,?_,?_,?_,h4,fun j=>rB.frozenAt j⟩
  ·rw[rB.cellAt _ (by omega)];exact h3 0 (by omega)
  ·rw[rB.cellAt _ (by omega)];exact h3 1 (by omega)
  ·rw[rB.cellAt _ (by omega)];exact h3 2 (by omega)
theorem wM(l:List bG):bT (l.map dE)=bT l:=by
 unfold bT;rw[List.map_map];congr 1;apply List.map_congr_left;intro t _;simp only[Function.comp];unfold dE;split<;>rfl
theorem I6(l:List bG)(v:Value)(F:Nat->Prop)(w:World)(hv:GR w F (.row 3 (l.map bG.gv)) [v])(hl:l.length<=100000)(hs:bT l<=100000000):
 Calls prog 64 #[v] w (NV F l w):=by
 have wv:=Ld l v F w hv hl;obtain⟨A,c,rfl,zQ,mz,dS⟩:=iG hv;have ZM:=bD wv;clear dS mz hv wv zQ;go_enter func64,ntmps64;go_wp2_with fail;refine ZM.o.mono ?_;rintro e w1 ⟨v1,rfl,h1,dG⟩;obtain⟨A1,c1,rfl⟩:=h1.form;rw[ah]at*;have SO:=bD h1;have hJ:=bD dG;clear h1 dG ZM;go_wp2_with fail;go_loopw [9] (fun i wr=>∃k:Nat,k<=l.length/\i=.int .i64 k/\b8 wr w.heap.size 75 3 (fun g=>F g/\g<w.heap.size) (.slice A1 l.length c1) (((l.take k).map dE++l.drop k).map bG.gv)/\Hy (Below w.heap.size w wr))
  (fun i wr=>l.length-(intOf i).toNat)
 case atStart=>exact⟨0,ax _,rfl,by simpa using SO.o,hJ⟩
 case round=>
  obtain⟨k,hk,rfl,ho,HB⟩:=hrel;by_cases bW:k<l.length
  ·have hMl:((l.take k).map dE++l.drop k).length=l.length:=by rw[af,ah,ay,aj];omega
   have mJ:=Dk l k bW;have YC:=NW l k bW;obtain⟨g,va,rfl,zQ,mz,hgb,TE,t0,t1,t2,vC,W4⟩:=NX ho hMl.symm (Le l k bW);generalize l[k]=t at*;obtain⟨AA,ac,rfl,-,-,-⟩:=dV vC;have z0:=W4 (k*3);have z1:=W4 (k*3+1);have z2:=W4 (k*3+2);have sk:=bD mJ;have HSA:=bD YC;have HO:=bD ho;have Lf:=bD hMl;have nE:(0:Int)<=(k:Int):=by omega
   have fA:(k:Int)<(l.length:Int):=by omega
   have SM:=bD vC;clear mJ YC ho hMl vC W4 SO hJ;have HHB:=HB;by_cases h1:t.kind=1
   ·have Ij:Hy (dE t=t):=by unfold Hy dE;rw[ae (.inl h1)]
    have b1:(t.kind !=1)=false:=by rw[h1];rfl
    clear h1;go_wp2_with fail;exact⟨⟨k+1,bW,by go_num,by rw[HSA.o Ij.o];exact HO.o.below (cU _ _),HB.o.alloc HB.o.size _⟩,by simp[intOf];omega⟩
   ·have b1:(t.kind !=1)=true:=by rw[aQ];exact h1
    by_cases h2:t.kind=2
    ·have Ij:Hy (dE t=t):=by unfold Hy dE;rw[ae (.inr (.inl h2))]
     have b2:(t.kind !=2)=false:=by rw[h2];rfl
     clear h1 h2;go_wp2_with fail;exact⟨⟨k+1,bW,by go_num,by rw[HSA.o Ij.o];exact HO.o.below (cU _ _),HB.o.alloc HB.o.size _⟩,by simp[intOf];omega⟩
    ·have b2:(t.kind !=2)=true:=by rw[aQ];exact h2
     by_cases h3:t.kind=3
     ·have Ij:Hy (dE t=t):=by unfold Hy dE;rw[ae (.inr (.inr h3))]
      have b3:(t.kind !=3)=false:=by rw[h3];rfl
      clear h1 h2 h3;go_wp2_with fail;exact⟨⟨k+1,bW,by go_num,by rw[HSA.o Ij.o];exact HO.o.below (cU _ _),HB.o.alloc HB.o.size _⟩,by simp[intOf];omega⟩
     ·have Ij:Hy (dE t=bS t.text):=by unfold Hy dE;rw[aa (by rintro (h|h|h);exact h1 h;exact h2 h;exact h3 h)]
      have b3:(t.kind !=3)=true:=by rw[aQ];exact h3
      clear h1 h2 h3;go_wp2_with fail;obtain⟨EY,uc⟩:=T1 HO.o (by rw[ah];exact Lf.o.symm) (i:=k) (by rw[ah,Lf.o];exact bW) (bS t.text).gv (.int .i64 0) (.string (bs t.text)) (.slice none 0 0) (ke cS);rw[<-List.map_set]at EY;have cu:Below w.heap.size w (CC wr g (k*3) (.int .i64 0) (.string (bs t.text)) (.slice none 0 0)):=HB.o.trans (bN uc HB.o.size (fun j hj=>by have hj:g=j:=ar hj;omega));exact⟨⟨k+1,bW,by go_num,by rw[sk.o,Ij.o];exact EY.below (cU _ _),cu.alloc cu.size _⟩,by simp[intOf];omega⟩
  ·have ln:k=l.length:=by omega
   subst ln;rw[aM,bu,List.append_nil]at ho;have cO:=ho.gr (F:=fun j=>(F j/\j<w.heap.size)\/w.heap.size<=j) (fun _ h=>.inl h) (fun j hj=>.inr (ho.lt j hj).1);have tV:=bD cO;clear ho cO SO hJ;go_wp2_with fail;refine(Db (l.map dE) _ _ wr tV.o (by rw[ah];omega) (by rw[wM];exact hs)).mono ?_;rintro e w9 ⟨v9,rfl,h9,fq⟩;have H9:=bD h9;have lP:=bD fq;clear h9 fq;go_wp2_with fail;go_ret;exact⟨v9,rfl,H9.o.gr (fun g hg=>hg.1.imp (fun h=>h.1) id) (fun g hg=>.inr (au HB.o.size (H9.o.lt g hg).1)),HB.o.trans (lP.o.mono HB.o.size)⟩
theorem uD{N:Nat}:∀(l o:List bG),(∀x∈o,x.bK.length<=N)->(∀x∈l,x.bK.length<=N)->∀x∈l.foldl bV o,x.bK.length<=N
 |[],_,h,_=>h
 |t::l,o,h,hk=>by
  refine uD l _ ?_ (fun x hx=>hk x (by simp[hx]));have ht:=hk t (by simp);have hs:∀x∈o++[t],x.bK.length<=N:=by
   intro x hx;rcases List.mem_append.1 hx with h1|h1
   ·exact h x h1
   ·rw[aV]at h1;subst h1;exact ht
  unfold bV;split
  ·exact hs
  ·split
   ·exact h
   ·rcases List.eq_nil_or_concat o with rfl|⟨l',u,rfl⟩
    ·exact hs
    ·rw[List.concat_eq_append]at h hs|-;simp only[List.getLast?_append,List.getLast?_singleton,Option.some_or];split
     ·rw[List.dropLast_concat];intro x hx;rcases List.mem_append.1 hx with h1|h1
      ·exact h x (by simp[h1])
      ·rw[aV]at h1;subst h1;exact h u (by simp)
     ·exact hs
theorem Lg(t:bG):(dE t).bK.length<=t.bK.length:=by
 unfold dE;split
 ·exact dv _
 ·exact ax _
theorem FI{N:Nat}{l:List bG}(h:∀x∈l,x.bK.length<=N):∀x∈ed l,x.bK.length<=N:=by
 refine uD _ [] (by simp) fun x hx=>?_;obtain⟨y,hy,rfl⟩:=List.mem_map.1 hx;exact au (Lg y) (h y hy)
theorem Lh(l:List bG):(ed l).length<=l.length:=by
 have:=vJ (l.map dE);rw[ah]at this;exact this
theorem Li(l:List bG):bT (ed l)<=bT l:=by
 rw[<-wM l];exact rD _
def Bd(n:Nat)(st:List Level):Prop:=st.length<=17/\∀x∈st,x.e.bE.length<=n
theorem Bd.put{n:Nat}{st:List Level}{e:Elem}(h:Bd n st):Bd (n+1) (kO st e):=by
 cases st with
 |nil=>exact⟨by simp[kO],by simp[kO]⟩
 |cons t r=>
  refine⟨?_,?_⟩
  ·have:=h.1;simp only[kO,ak]at this|-;omega
  ·intro x hx;simp only[kO,List.mem_cons]at hx;rcases hx with rfl|hx
   ·have:=h.2 t (by simp)
    show(oT t.e e).bE.length<=_
    unfold oT;split
    ·omega
    ·rw[Elem.fP,af];simp;omega
   ·have:=h.2 x (by simp[hx]);omega
theorem Bd.more{n:Nat}{st:List Level}(h:Bd n st):Bd (n+1) st:=⟨by have:=h.1;omega,fun x hx=>by have:=h.2 x hx;omega⟩
theorem I7{st:List Level}{e:Elem}(h:st≠[]):kO st e≠[]:=by
 cases st with
 |nil=>exact aX rfl h
 |cons t r=>simp[kO]
theorem NY{n:Nat}{st:List Level}{t:bG}(h:Bd n st)(db:st≠[]):Bd (n+1) (cD st t).1/\(cD st t).1≠[]:=by
 obtain⟨u,r,rfl⟩:=List.exists_cons_of_ne_nil db;unfold cD;split
 ·unfold fw;cases hq:eW t.text with
  |none=>exact⟨h.more,db⟩
  |some q=>
   simp only;split
   ·exact⟨h.more,db⟩
   ·cases ha:fv q.kind (fi q.kind) [] t.bK with
    |none=>exact⟨h.more,db⟩
    |some e=>
     simp only;split
     ·exact⟨h.more,db⟩
     ·split
      ·exact⟨h.more,db⟩
      ·split
       ·exact⟨h.put,I7 db⟩
       ·split
        ·exact⟨h.more,db⟩
        ·rename_i hd;refine⟨⟨by simp only[ak]at hd|-;omega,fun x hx=>?_⟩,by simp⟩;rcases List.mem_cons.1 hx with rfl|hx
         ·show(gq q.kind e).bE.length<=_
          rw[Aj ha];simp
         ·have:=h.2 x hx;omega
 ·split
  ·unfold jA;cases hq:eW t.text with
   |none=>exact⟨h.more,db⟩
   |some q=>
    simp only;split
    ·exact⟨h.more,db⟩
    ·split
     ·exact⟨h.more,db⟩
     ·rename_i hc;have hr:r≠[]:=fun e=>hc (.inl e);have h2:Bd n r:=⟨by have:=h.1;simp only[ak]at this;omega,fun x hx=>h.2 x (by simp[hx])⟩;exact⟨h2.put,I7 hr⟩
  ·unfold mF;simp only;split
   ·exact⟨h.more,db⟩
   ·exact⟨h.put,I7 db⟩
def Aq(r:List Elem × Int)(w:World)(e:Ending)(w':World):Prop:=
 ∃v,e=.returned (.tuple #[v,.int .i64 r.2])/\GR w' (fun g=>w.heap.size<=g) (.row 7 (r.1.map Elem.gv)) [v]/\Below w.heap.size w w'
theorem NZ{l:List bG}(h:(bO 0 [dN] (ed l)).2≠0):iO l=([],(bO 0 [dN] (ed l)).2):=by
 unfold iO;simp only;rw[ae h]
theorem N0{l:List bG}{p:Level}(h:bO 0 [dN] (ed l)=([p],0)):iO l=(p.e.bE,0):=by
 unfold iO;simp only[h];rw[aa (by simp)]
theorem Lj{l:List bG}{z:List Level}(h:bO 0 [dN] (ed l)=(z,0))(db:z.length≠1):iO l=([],42):=by
 unfold iO;simp only[h];rw[aa (by simp)]
 match z,db with
 |[],_=>rfl
 |[p],db=>exact aX rfl db
 |_::_::_,_=>rfl
theorem W8(w:World):FC ((w.alloc (.cells #[.int .i64 0,.string ⟨#[]⟩,.string ⟨#[]⟩,.string ⟨#[]⟩,.bool false,.string ⟨#[]⟩,.slice none 0 0,.string ⟨#[]⟩] 118)).alloc (.cells #[.slice (some ⟨w.heap.size,0,none⟩) 1 1,.int .i64 0] 115)) w.heap.size (w.heap.size+1) (.slice (some ⟨w.heap.size,0,none⟩) 1 1) [dN] [.slice none 0 0] (fun _=>none):=by
 have h1:=bL.new (w.alloc (.cells #[.int .i64 0,.string ⟨#[]⟩,.string ⟨#[]⟩,.string ⟨#[]⟩,.bool false,.string ⟨#[]⟩,.slice none 0 0,.string ⟨#[]⟩] 118)) 115 #[.slice (some ⟨w.heap.size,0,none⟩) 1 1,.int .i64 0];rw[size_alloc]at h1;have h2:(w.alloc (.cells #[.int .i64 0,.string ⟨#[]⟩,.string ⟨#[]⟩,.string ⟨#[]⟩,.bool false,.string ⟨#[]⟩,.slice none 0 0,.string ⟨#[]⟩] 118)).ownsRow w.heap.size 118 8 (.slice (some ⟨w.heap.size,0,none⟩) 1 1) 1 (fD [dN] [.slice none 0 0]):=World.ownsRow_lit w _ 1 (dv _) (by simp[maxLen]) rfl;refine⟨h1,⟨rfl,h2.alloc _,fun i x kv e1 e2=>?_,fun _ _=>rfl,fun _ _ h=>by cases h⟩,rfl,fun e=>?_⟩
 ·cases i with
  |zero=>
   have e1:dN=x:=ar e1;have e2:Value.slice none 0 0=kv:=ar e2;subst e1 e2;exact⟨b8.nil _ _ _ _ _,fun k h=>by cases h⟩
  |succ i=>cases e1
 ·have e:w.heap.size=w.heap.size+1:=ar e;omega
theorem Lk(l:List bG)(v:Value)(F:Nat->Prop)(w:World)(hv:GR w F (.row 3 (l.map bG.gv)) [v])(hl:l.length<=100000)(hs:bT l<=100000000)(qy:∀t∈l,t.bK.length<=100000):
 Calls prog 37 #[v] w (Aq (iO l) w):=by
 obtain⟨A,c,rfl,-,-,-⟩:=iG hv;have HV:=bD (GR.du _ _ hv);clear hv;have QP:∀W:World,(Instr.makeSlice 113 (.int .i64 1) (.int .i64 1)).run prog W=.ok (.slice (some ⟨W.heap.size,0,none⟩) 1 1) (W.alloc (.cells #[.int .i64 0,.string ⟨#[]⟩,.string ⟨#[]⟩,.string ⟨#[]⟩,.bool false,.string ⟨#[]⟩,.slice none 0 0,.string ⟨#[]⟩] 118)):=fun _=>by kernel_rfl
 go_enter func37,ntmps37;go_upto_region 2 with(fail)
 have tK:=W8 w;obtain⟨w1,jz⟩:∃w1,w1=(w.alloc (.cells #[.int .i64 0,.string ⟨#[]⟩,.string ⟨#[]⟩,.string ⟨#[]⟩,.bool false,.string ⟨#[]⟩,.slice none 0 0,.string ⟨#[]⟩] 118)).alloc (.cells #[.slice (some ⟨w.heap.size,0,none⟩) 1 1,.int .i64 0] 115):=⟨_,rfl⟩;rw[<-jz]at tK|-;have dG:Below w.heap.size w w1:=by rw[jz];exact(cU _ _).alloc (by rw[size_alloc];omega) _
 have zX:w1.heap.size=w.heap.size+2:=by rw[jz,size_alloc,size_alloc]
 have Z7:=bD tK;have hJ:=bD dG;have mM:=bD zX;have uE:=bD (HV.o.below dG);clear QP jz tK dG zX HV;go_wp2_with fail;refine(I6 l _ _ w1 uE.o hl hs).mono ?_;rintro e w2 ⟨vj,rfl,hgj,cu⟩;have aj7:=hgj.dY (F':=fun g=>g<w.heap.size\/w.heap.size+2<=g) (fun k hk=>hk.imp (fun h=>h.2) (fun h=>by rw[mM.o]at h;exact h));have HJL:=bD (Lh l);have HJS:=bD (Li l);have HJA:=bD (FI qy);have As:Hy (∀z,bO 0 [dN] (ed l)=z->z.2≠0->iO l=([],z.2)):=fun z hz db=>by rw[<-hz];exact NZ (by rw[hz];exact db)
 have HBO:Hy (∀p,bO 0 [dN] (ed l)=([p],0)->iO l=(p.e.bE,0)):=fun p hz=>N0 hz;have HBM:Hy (∀z,bO 0 [dN] (ed l)=(z,0)->z.length≠1->iO l=([],42)):=fun z hz db=>Lj hz db;have au3:=bD (Z7.o.below (cu.mono (by have:=cu.size;omega)));have dm:Hy (Below w.heap.size w w2):=hJ.o.trans (cu.mono (by rw[mM.o];omega));have uj:Hy (w.heap.size+2<=w2.heap.size):=by have:=cu.size;rw[mM.o]at this;exact this
 generalize ed l=J at*;obtain⟨AJ,cJ,rfl,-,-,-⟩:=iG hgj;have HGJ:=bD aj7;clear hgj aj7 cu Z7 hJ uE;generalize iO l=R at*;go_wp2_with fail;go_loopw [15] (fun i wr=>∃(k:Nat) (st:List Level) (v:Value) (kvs:List Value) (own:Nat->Option Nat),k<=J.length/\i=.int .i64 k/\st≠[]/\k<=400/\Hy (Bd k st)/\Hy (FC wr w.heap.size (w.heap.size+1) v st.reverse kvs own)/\
  Hy (bO 0 [dN] J=bO k st (J.drop k))/\Hy (Fr w2 wr (w.heap.size+1) (.slice (some ⟨w.heap.size,0,none⟩) 1 1) (fun _=>none) v own (fun _=>False))/\Hy (Below w.heap.size w wr)/\Hy (w2.heap.size<=wr.heap.size))
  (fun i wr=>J.length-(intOf i).toNat)
 case atStart=>exact⟨0,[dN],_,_,_,ax _,rfl,by simp,by omega,⟨by simp,by simp[dN,fi,Elem.bE]⟩,au3.o,rfl,rH (aF _ _),dm,dv _⟩
 case round=>
  obtain⟨k,st,v,kvs,own,hk,rfl,db,hk4,E6,qT,YD,TQ,HB,xy⟩:=hrel;by_cases bW:k<J.length
  ·have cO:GR wr (fun g=>g<w.heap.size\/w.heap.size+2<=g) (.row 3 (J.map bG.gv)) [.slice AJ J.length cJ]:=by
    refine GR.mono (fun _ h=>h) (fun j hj tH=>(TQ.o j tH ?_ id).1) _ _ HGJ.o;rintro (e|e|e)
    ·exact e rfl
    ·have e:w.heap.size=j:=ar e;omega
    ·omega
   obtain⟨A',c',hv',sJ,-,dS⟩:=iG cO;injection hv' with e1 e2 e3
   subst e1 e3;obtain⟨b,o,rfl,-,dS⟩:=dS (by rintro e;rw[e]at bW;simp at bW);obtain⟨va,t0,t1,t2,vC⟩:=dS k bW;have GB:J.drop k=J[k]::J.drop (k+1):=aE bW;have Fy:J[k].text.length<=100000000:=by
    have h1:=sG J k bW;have h2:=HJS.o;omega
   have hta:=HJA.o J[k] (List.getElem_mem bW);rw[GB]at YD;generalize J[k]=t at*;have Dl:Hy (bO 0 [dN] J=if 400<=k then(st,4)else if(cD st t).2≠0 then cD st t else bO (k+1) (cD st t).1 (J.drop (k+1))):=YD.o;have Ll:=bD (NY (t:=t) E6.o db);obtain⟨Aa,ca,rfl,-,-,-⟩:=dV vC;have SM:=bD vC;have nE:(0:Int)<=(k:Int):=by omega
   have fA:(k:Int)<(J.length:Int):=by omega
   clear dS cO vC GB YD;go_upto_region 5 with(fail)
   have cg:Below wr.heap.size wr (wr.alloc (.cells #[.int .i64 t.kind,.string (bs t.text),.slice Aa t.bK.length ca] 75)):=cU _ _;have P2:=bL.new wr 75 #[.int .i64 t.kind,.string (bs t.text),.slice Aa t.bK.length ca];generalize wr.alloc (.cells #[.int .i64 t.kind,.string (bs t.text),.slice Aa t.bK.length ca] 75)=w5 at*;have kf:=bD (HB.o.trans (cg.mono HB.o.size));obtain⟨u,r,rfl⟩:=List.exists_cons_of_ne_nil db;have Z8:=qT.o.below cg;rw[List.reverse_cons]at Z8;have W9:=bD Z8;have aj8:=bD (SM.o.below cg);have QX:=bD (TQ.o.trans (rH (T:=fun _=>False) cg) xy.o (fun _ _ h=>h));have FF:Hy (w2.heap.size<=w5.heap.size/\w.heap.size<=w5.heap.size):=⟨au xy.o cg.size,au HB.o.size cg.size⟩;obtain⟨x0,x1,x2⟩:=nw P2;have vK:r.length<=100:=by have:=E6.o.1;rw[ak]at this;omega
   have hku:=E6.o.2 u (by simp);have Dm:Hy (∀x,x∈u::r->x.e.bE.length<=10000):=fun x hx=>by have:=E6.o.2 x hx;omega
   clear t0 t1 t2 cg P2 Z8 qT SM HB db E6 TQ;generalize wr.heap.size=X at*;have T2:w.heap.size<=w.heap.size+1:=aY _;have B4:u.e.bE.length<=10000:=by omega
   by_cases h1:t.kind=1
   ·have h2:True:=trivial;have h3:True:=trivial;have b1:(t.kind==1)=true:=by rw[h1];rfl
    have HT:Hy (cD (u::r) t=fw (u::r) t):=by unfold cD;rw[ae (.inl h1)];rfl
    clear h1 h2 h3;by_cases Dn:400<=k
    ·have HR:=bD (As.o _ (Dl.o.trans (ae Dn)) (show(4:Int)≠0 by decide));go_wp2_with fail;go_ret2;exact⟨_,by rw[HR.o];rfl,by rw[HR.o];exact cS,kf.o⟩
    ·have Dp:=bD (Dl.o.trans (aa Dn));have VF:k+1<=400:=by omega
     go_wp2_with fail;refine(Bn t (.slice Aa t.bK.length ca) w5 W9.o vK B4 T2 Fy aj8.o hta).mono ?_;rw[<-HT.o];rintro e w6 ⟨rfl,⟨v6,Dg,Dh,h6,T3⟩,mo⟩;have N1:=bD (QX.o.trans T3 FF.o.1 (fun _ _ h=>h));have tR:=bD (kf.o.trans mo);have xY:Hy (w5.heap.size<=w6.heap.size):=mo.size;have N4:=bD h6;clear h6 T3 mo x0 x1 x2;obtain⟨er,E7⟩:∃er,er=(cD (u::r) t).2:=⟨_,rfl⟩;rw[<-E7];have Dq:=bD E7.symm;clear E7;by_cases he:er=0
     ·have GM:(er !=0)=false:=by rw[he];rfl
      have N5:=bD (Dp.o.trans (aa (by rw[Dq.o,he];simp)));clear he;go_wp2_with fail;exact⟨⟨k+1,(cD (u::r) t).1,v6,Dg,Dh,bW,by go_num,Ll.o.2,VF,Ll.o.1,N4.o,N5.o,N1.o,tR.o,au FF.o.1 xY.o⟩,by simp[intOf];omega⟩
     ·have GM:(er !=0)=true:=by rw[aQ];exact he
      have HR:=bD (As.o _ (Dp.o.trans (ae (by rw[Dq.o];exact he))) (by rw[Dq.o];exact he));rw[Dq.o]at HR;clear he;go_wp2_with fail;go_ret2;exact⟨_,by rw[HR.o];rfl,by rw[HR.o];exact cS,tR.o⟩
   ·have b1:(t.kind==1)=false:=by rw[ai];exact h1
    by_cases h3:t.kind=3
    ·have h2:True:=trivial;have b3:(t.kind==3)=true:=by rw[h3];rfl
     have HT:Hy (cD (u::r) t=fw (u::r) t):=by unfold cD;rw[ae (.inr h3)];rfl
     clear h1 h2 h3;by_cases Dn:400<=k
     ·have HR:=bD (As.o _ (Dl.o.trans (ae Dn)) (show(4:Int)≠0 by decide));go_wp2_with fail;go_ret2;exact⟨_,by rw[HR.o];rfl,by rw[HR.o];exact cS,kf.o⟩
     ·have Dp:=bD (Dl.o.trans (aa Dn));have VF:k+1<=400:=by omega
      go_wp2_with fail;refine(Bn t (.slice Aa t.bK.length ca) w5 W9.o vK B4 T2 Fy aj8.o hta).mono ?_;rw[<-HT.o];rintro e w6 ⟨rfl,⟨v6,Dg,Dh,h6,T3⟩,mo⟩;have N1:=bD (QX.o.trans T3 FF.o.1 (fun _ _ h=>h));have tR:=bD (kf.o.trans mo);have xY:Hy (w5.heap.size<=w6.heap.size):=mo.size;have N4:=bD h6;clear h6 T3 mo x0 x1 x2;obtain⟨er,E7⟩:∃er,er=(cD (u::r) t).2:=⟨_,rfl⟩;rw[<-E7];have Dq:=bD E7.symm;clear E7;by_cases he:er=0
      ·have GM:(er !=0)=false:=by rw[he];rfl
       have N5:=bD (Dp.o.trans (aa (by rw[Dq.o,he];simp)));clear he;go_wp2_with fail;exact⟨⟨k+1,(cD (u::r) t).1,v6,Dg,Dh,bW,by go_num,Ll.o.2,VF,Ll.o.1,N4.o,N5.o,N1.o,tR.o,au FF.o.1 xY.o⟩,by simp[intOf];omega⟩
      ·have GM:(er !=0)=true:=by rw[aQ];exact he
       have HR:=bD (As.o _ (Dp.o.trans (ae (by rw[Dq.o];exact he))) (by rw[Dq.o];exact he));rw[Dq.o]at HR;clear he;go_wp2_with fail;go_ret2;exact⟨_,by rw[HR.o];rfl,by rw[HR.o];exact cS,tR.o⟩
    ·have b3:(t.kind==3)=false:=by rw[ai];exact h3
     by_cases h2:t.kind=2
     ·have b2:(t.kind==2)=true:=by rw[h2];rfl
      have HT:Hy (cD (u::r) t=jA (u::r) t):=by unfold cD;rw[aa (by rintro (h|h);exact h1 h;exact h3 h),ae h2];rfl
      clear h1 h2 h3;by_cases Dn:400<=k
      ·have HR:=bD (As.o _ (Dl.o.trans (ae Dn)) (show(4:Int)≠0 by decide));go_wp2_with fail;go_ret2;exact⟨_,by rw[HR.o];rfl,by rw[HR.o];exact cS,kf.o⟩
      ·have Dp:=bD (Dl.o.trans (aa Dn));have VF:k+1<=400:=by omega
       go_wp2_with fail;refine(K7 t (.slice Aa t.bK.length ca) w5 W9.o vK Dm.o T2 Fy).mono ?_;rw[<-HT.o];rintro e w6 ⟨rfl,⟨v6,Dg,Dh,h6,T3⟩,mo⟩;have N1:=bD (QX.o.trans T3 FF.o.1 (fun _ _ h=>h));have tR:=bD (kf.o.trans mo);have xY:Hy (w5.heap.size<=w6.heap.size):=mo.size;have N4:=bD h6;clear h6 T3 mo x0 x1 x2;obtain⟨er,E7⟩:∃er,er=(cD (u::r) t).2:=⟨_,rfl⟩;rw[<-E7];have Dq:=bD E7.symm;clear E7;by_cases he:er=0
       ·have GM:(er !=0)=false:=by rw[he];rfl
        have N5:=bD (Dp.o.trans (aa (by rw[Dq.o,he];simp)));clear he;go_wp2_with fail;exact⟨⟨k+1,(cD (u::r) t).1,v6,Dg,Dh,bW,by go_num,Ll.o.2,VF,Ll.o.1,N4.o,N5.o,N1.o,tR.o,au FF.o.1 xY.o⟩,by simp[intOf];omega⟩
       ·have GM:(er !=0)=true:=by rw[aQ];exact he
        have HR:=bD (As.o _ (Dp.o.trans (ae (by rw[Dq.o];exact he))) (by rw[Dq.o];exact he));rw[Dq.o]at HR;clear he;go_wp2_with fail;go_ret2;exact⟨_,by rw[HR.o];rfl,by rw[HR.o];exact cS,tR.o⟩
     ·have b2:(t.kind==2)=false:=by rw[ai];exact h2
      have HT:Hy (cD (u::r) t=mF (u::r) t):=by unfold cD;rw[aa (by rintro (h|h);exact h1 h;exact h3 h),aa h2];rfl
      clear h1 h2 h3;by_cases Dn:400<=k
      ·have HR:=bD (As.o _ (Dl.o.trans (ae Dn)) (show(4:Int)≠0 by decide));go_wp2_with fail;go_ret2;exact⟨_,by rw[HR.o];rfl,by rw[HR.o];exact cS,kf.o⟩
      ·have Dp:=bD (Dl.o.trans (aa Dn));have VF:k+1<=400:=by omega
       go_wp2_with fail;refine(NP t (.slice Aa t.bK.length ca) w5 W9.o vK B4 T2 Fy).mono ?_;rw[<-HT.o];rintro e w6 ⟨rfl,⟨v6,Dg,Dh,h6,T3⟩,mo⟩;have N1:=bD (QX.o.trans T3 FF.o.1 (fun _ _ h=>h));have tR:=bD (kf.o.trans mo);have xY:Hy (w5.heap.size<=w6.heap.size):=mo.size;have N4:=bD h6;clear h6 T3 mo x0 x1 x2;obtain⟨er,E7⟩:∃er,er=(cD (u::r) t).2:=⟨_,rfl⟩;rw[<-E7];have Dq:=bD E7.symm;clear E7;by_cases he:er=0
       ·have GM:(er !=0)=false:=by rw[he];rfl
        have N5:=bD (Dp.o.trans (aa (by rw[Dq.o,he];simp)));clear he;go_wp2_with fail;exact⟨⟨k+1,(cD (u::r) t).1,v6,Dg,Dh,bW,by go_num,Ll.o.2,VF,Ll.o.1,N4.o,N5.o,N1.o,tR.o,au FF.o.1 xY.o⟩,by simp[intOf];omega⟩
       ·have GM:(er !=0)=true:=by rw[aQ];exact he
        have HR:=bD (As.o _ (Dp.o.trans (ae (by rw[Dq.o];exact he))) (by rw[Dq.o];exact he));rw[Dq.o]at HR;clear he;go_wp2_with fail;go_ret2;exact⟨_,by rw[HR.o];rfl,by rw[HR.o];exact cS,tR.o⟩
  ·have ln:k=J.length:=by omega
   subst ln;have hlp:bO 0 [dN] J=(st,0):=by rw[YD.o,bu];rfl
   have Dl:=bD hlp;clear hlp YD;obtain⟨u,r,rfl⟩:=List.exists_cons_of_ne_nil db;have mP:=qT.o;rw[List.reverse_cons]at mP;obtain⟨sb,cap,rfl,sJ,mz,E5,VJ⟩:=mP.form;rw[bx]at*;have b0:=mP.iz.cell 0;have vK:r.length<=100:=by have:=E6.o.1;rw[ak]at this;omega
   by_cases rB:r=[]
   ·subst rB;obtain⟨kvr,kv,rfl,xA⟩:=mP.Nw;have au4:kvr=[]:=bd xA;subst au4;obtain⟨ux,wJ⟩:=mP.yH.Nw 0 u kv rfl rfl;obtain⟨Ak,ck,rfl⟩:=ux.form;rw[ah]at*;have ib:=mP.yH.row;have k6:wr.cell? ⟨sb,6,none⟩=some (.slice Ak u.e.bE.length ck):=by
     rw[ib.cellAt 6 (by simp)];rfl
    have aj9:=ux.gr (F:=fun g=>w.heap.size<=g) (fun g hg=>(mP.yH.lt g 0 hg).1) (fun g hg=>(mP.yH.lt g 0 (wJ g hg)).1);have HR:=bD (HBO.o u Dl.o);have au5:=bD aj9;have Tu:=bD sJ;clear ib ux wJ mP aj9 sJ;go_wp2_with fail;refine(rG (n:=0) wr b0 Tu.o (by omega)).mono ?_;rintro e w9 ⟨rfl,m,I8⟩;have fq:Below wr.heap.size wr w9:=by rw[I8];exact below_drewN (aF _ _) m
    have k69:w9.cell? ⟨sb,6,none⟩=some (.slice Ak u.e.bE.length ck):=by rw[I8];exact k6
    have lP:=bD fq;clear fq I8 k6 b0;go_wp2_with fail;go_ret2;exact⟨_,by rw[HR.o];rfl,by rw[HR.o];exact au5.o.below lP.o,HB.o.trans (lP.o.mono HB.o.size)⟩
   ·have HR:=bD (HBM.o _ Dl.o (by have:=List.length_pos_iff.2 rB;rw[ak];omega));have hd:decide ((1:Int)<(r.length:Int)+1)=true:=by have:=List.length_pos_iff.2 rB;rw[decide_eq_true_iff];omega
    clear mP;go_wp2_with fail;go_ret2;exact⟨_,by rw[HR.o];rfl,by rw[HR.o];exact cS,HB.o⟩
theorem wN:∀{n:Nat} {nm:Bt} {at_:List bY} {r:Bt} {k:Nat} {t:bG} {r':Bt} {k':Nat},at_.length<=8->dz n nm at_ r k=.ok t r' k'->t.bK.length<=8
 |0,_,_,_,_,_,_,_,_,h=>by simp[dz]at h
 |n+1,nm,at_,r,k,t,r',k',ha,h=>by
  rw[dz]at h;obtain⟨wF,r1,k1,h1,h2⟩:=eN.cG h;obtain⟨c,r2,k2,h3,h4⟩:=eN.cG h2;unfold gO at h4;split at h4
  ·injection h4 with b1;subst b1;exact ha
  ·split at h4
   ·obtain⟨_,r5,k5,h5,h6⟩:=eN.cG h4;injection h6 with b1;subst b1;exact ha
   ·split at h4
    ·cases h4
    ·obtain⟨a,r5,k5,h5,h6⟩:=eN.cG h4;obtain⟨_,r6,k6,h7,h8⟩:=eN.cG h6;unfold qx at h8;split at h8
     ·cases h8
     ·rename_i hc;unfold su at h8;obtain⟨_,r9,k9,h9,KJ⟩:=eN.cG h8;obtain⟨v,r11,k11,Bk,II⟩:=eN.cG KJ;obtain⟨_,r13,k13,h13,h14⟩:=eN.cG II;refine wN ?_ h14;simp only[bA,aH,not_or]at hc;rw[af];simp;omega
theorem N6{m s:Bt}{k0:Nat}{t:bG}{r:Bt}{k:Nat}(h:ml m s k0=.ok t r k):t.bK.length<=8:=by
 rw[ml]at h;obtain⟨_,r1,k1,h1,h2⟩:=eN.cG h;obtain⟨nm,r3,k3,h3,h4⟩:=eN.cG h2;split at h4
 ·obtain⟨_,r5,k5,h5,h6⟩:=eN.cG h4;obtain⟨_,r7,k7,h7,h8⟩:=eN.cG h6;injection h8 with e1
  subst e1;exact ax _
 ·exact wN (by simp) h4
theorem N7(s m:Bt):(fe s m).1.bK.length<=8:=by
 unfold fe;split
 ·rename_i t r k ht;exact N6 ht
 ·exact ax _
 ·exact ax _
theorem pY:∀(n:Nat) (b:Bool) (s:Bt) (o:List bG),(∀t∈o,t.bK.length<=8)->∀t∈(cC n b s o).2.1,t.bK.length<=8
 |0,_,_,_,_=>by intro t ht;simp[cC]at ht
 |n+1,b,s,o,ho=>by
  rw[cC];have h1:∀t∈(if 0<(bX b s).2 then o++[bS (s.take (bX b s).2)]else o),t.bK.length<=8:=by
   split
   ·intro t ht;rcases List.mem_append.1 ht with h|h
    ·exact ho t h
    ·rw[aV]at h;subst h;exact ax _
   ·exact ho
  simp only;split
  ·exact h1
  ·split
   ·exact pY n _ _ _ h1
   ·split
    ·intro t ht;cases ht
    ·split
     ·exact h1
     ·refine pY n _ _ _ ?_;intro t ht;rcases List.mem_append.1 ht with h|h
      ·exact h1 t h
      ·rw[aV]at h;subst h;exact N7 _ _
theorem N8(s:Bt):∀t∈(gH s).1,t.bK.length<=8:=by
 have he:∀x:gG,∀t∈(ig x).1,t.bK.length<=8:=fun x=>by
  unfold ig;split
  ·split
   ·intro t ht;cases ht
   ·split
    ·intro t ht;cases ht
    ·intro t ht;rw[aV]at ht;subst ht;exact ax _
  ·intro t ht;cases ht
 have hf:∀(x:gG) (s:Bt),∀t∈(dC x s).2.1,t.bK.length<=8:=fun x s=>by
  unfold dC;split
  ·exact pY _ _ _ _ (by simp)
  ·intro t ht;cases ht
 unfold gH;simp only;split
 ·intro t ht;cases ht
 ·split
  ·intro t ht;cases ht
  ·refine uD _ [] (by simp) fun x hx=>?_;rcases List.mem_append.1 hx with h|h
   ·exact hf _ _ x h
   ·exact he _ x h
theorem T4(s:Bt):cM s=if(gH s).2≠0 then([],(gH s).2)else iO (gH s).1:=rfl
theorem Bp(s:Bt):(gH s).1.length<=s.length+1/\bT (gH s).1<=2*s.length:=by
 have h1:=vL ⟨[],false⟩ s;have h2:=KM (dC ⟨[],false⟩ s).1;unfold gH;simp only;split
 ·exact⟨by simp,by simp[bT]⟩
 ·split
  ·exact⟨by simp,by simp[bT]⟩
  ·simp only[aD]at h1;refine⟨au (vJ _) ?_,au (rD _) ?_⟩
   ·rw[af];omega
   ·rw[dt];omega
theorem N9(s:ByteArray)(w:World)(hs:s.size<=90000):
 Calls prog 22 #[.string s] w (Aq (cM (L s)) w):=by
 have SQ:=bD (T4 (L s));have mC:=cm s;have P3:=bD (Bp (L s));have WU:=bD (N8 (L s));go_enter func22,ntmps22;go_wp2_with fail;refine(QR s w (by omega)).mono ?_;generalize cM (L s)=R at*;generalize gH (L s)=P at*;obtain⟨J,er⟩:=P;rintro e w1 ⟨v,rfl,cO,dG⟩;have tV:=bD cO;have hJ:=bD dG;clear cO dG;by_cases he:er=0
 ·have GM:(er !=0)=false:=by rw[he];rfl
  have Dr:Hy (R=iO J):=SQ.o.trans (aa (by simpa using he));clear he SQ;go_wp2_with fail;refine(Lk J v _ w1 tV.o (by have:=P3.o.1;omega) (by have:=P3.o.2;omega) (fun t ht=>au (WU.o t ht) (by omega))).mono ?_;rintro e w2 ⟨v2,rfl,h2,cu⟩;have H2:=bD h2;have dm:=bD cu;clear h2 cu;go_wp2_with fail;go_ret2;exact⟨_,by rw[Dr.o];rfl,by rw[Dr.o];exact H2.o.dY (fun k hk=>au hJ.o.size hk),hJ.o.trans (dm.o.mono hJ.o.size)⟩
 ·have GM:(er !=0)=true:=by rw[aQ];exact he
  have Dr:Hy (R=([],er)):=SQ.o.trans (ae he);clear he SQ;go_wp2_with fail;go_ret2;exact⟨_,by rw[Dr.o];rfl,by rw[Dr.o];exact cS,hJ.o⟩
end Go.Proofs.YtejafaaihodehaaGreatDoor
