/- Part 12. -/
import Derived.Test.YtejafaaihodehaaGreatDoorZ11
import Derived.Test.YtejafaaihodehaaGreatDoorShelf
import Derived.Shelf.Strings.SlTrimAscii
import Derived.Deep.CutRange
import Derived.StillTailTactics
import Derived.IntWalk
set_option linter.all false
set_option maxRecDepth 100000
set_option maxHeartbeats 8000000
namespace Go.Proofs.YtejafaaihodehaaGreatDoor
open Go Go.RowKit Tryz
def uz(base B:Nat)(v:Value)(own:Nat->Option Nat)(p:List Level × Int)(w:World)(en:Ending)(w':World):Prop:=
 en=.returned (.int .i64 p.2)/\(∃v' IG pT,FC w' base B v' p.1.reverse IG pT/\Fr w w' B v own v' pT (fun _=>False))/\Below base w w'
theorem gS{base B:Nat}{v:Value}{r:List Level}{u:Level}{kvs:List Value}{own:Nat->Option Nat}{w w1 w2:World}{z:Int}(h:FC w1 base B v (r.reverse++[u]) kvs own)(hb:Below w1.heap.size w1 w2)(pq:Below w.heap.size w w1)(eo:base<=w.heap.size):
 uz base B v own (u::r,z) w (.returned (.int .i64 z)) w2:=
 have cu:=pq.trans (hb.mono pq.size)
 ⟨rfl,⟨v,kvs,own,by rw[List.reverse_cons];exact⟨⟨h.iz.below hb h.iz.lt,h.yH.below hb,h.free,h.ne⟩,rH cu⟩⟩,cu.mono eo⟩
theorem wK{p:UInt8->Bool}:∀{l:Bt},l.dropWhile p=[]↔l.all p=true
 |[]=>by simp
 |a::l=>by
  by_cases h:p a=true
  ·simp only[List.dropWhile_cons,h,if_true,List.all_cons,Bool.true_and];exact wK
  ·simp[List.dropWhile_cons,h]
theorem uA{p:UInt8->Bool}:∀{l:Bt},(l.dropWhile p).all p=l.all p
 |[]=>rfl
 |a::l=>by
  by_cases h:p a=true
  ·simp only[List.dropWhile_cons,h,if_true,List.all_cons,Bool.true_and];exact uA
  ·simp[List.dropWhile_cons,h]
theorem TO(l:Bt):(Lib.trimS l [32,9,10,13]=[])↔l.all cV=true:=by
 have hb:(fun b=>[32,9,10,13].contains b)=cV:=by
  funext b;simp only[cV,List.contains_cons,List.contains_nil,Bool.or_false];cases b==32<;>cases b==9<;>cases b==10<;>cases b==13<;>rfl
 unfold Lib.trimS Lib.trimLeftS Lib.trimRightS;rw[hb,wK,List.all_reverse,uA,List.all_reverse]
theorem FC.below{w w':World}{base B:Nat}{v:Value}{st:List Level}{kvs:List Value}{own:Nat->Option Nat}(h:FC w base B v st kvs own)(hb:Below w.heap.size w w'):FC w' base B v st kvs own:=
 ⟨h.iz.below hb h.iz.lt,h.yH.below hb,h.free,h.ne⟩
theorem Dd{u:Level}{r:List Level}{e:Elem}:(kO (u::r) e).reverse=r.reverse++[⟨oT u.e e,u.name⟩]:=by simp[kO]
theorem NP{base B:Nat}{v:Value}{r:List Level}{u:Level}{kvs:List Value}{own:Nat->Option Nat}(t:bG)(av:Value)(w:World)(h:FC w base B v (r.reverse++[u]) kvs own)(hr:r.length<=100)
 (hk:u.e.bE.length<=10000) (hB:base<=B) (ht:t.text.length<=100000000):
 Calls prog 65 #[.pointer (some ⟨B,0,none⟩),.agg #[.int .i64 t.kind,.string (bs t.text),av]] w (uz base B v own (mF (u::r) t) w):=by
 obtain⟨sb,cap,rfl,sJ,mz,E5,VJ⟩:=h.form;obtain⟨kvr,kv,rfl,xA⟩:=h.Nw;rw[bx]at*;have ib:=h.yH.row;rw[af,aR,bx]at ib;have qy:∀j,j<8->w.cell? ⟨sb,r.length*8+j,none⟩=(ik u kv)[j]?:=fun j hj=>by
  rw[ib.cellAt _ (by omega)];exact xz r.length j hj (by simp) (by rw[<-xA];simp)
 have cg:=cU w (.cells #[.int .i64 t.kind,.string (bs t.text),av] 75);have b0:(w.alloc (.cells #[.int .i64 t.kind,.string (bs t.text),av] 75)).cell? ⟨B,0,none⟩=some (.slice (some ⟨sb,0,none⟩) (r.length+1) cap):=(h.iz.below cg h.iz.lt).cell 0;have k0:=qy 0 (by omega);go_enter func65,ntmps65;go_wp2_with fail;refine(rG _ b0 sJ (by omega)).mono ?_;rintro en w2 ⟨rfl,m,rfl⟩;have VM:Below w.heap.size w ((w.alloc (.cells #[.int .i64 t.kind,.string (bs t.text),av] 75)).drewN m):=below_drewN cg m;obtain⟨W,hW⟩:∃W,W=(w.alloc (.cells #[.int .i64 t.kind,.string (bs t.text),av] 75)).drewN m:=⟨_,rfl⟩;have hx:bL W w.heap.size 75 #[.int .i64 t.kind,.string (bs t.text),av]:=by rw[hW];exact bL.new w _ _
 rw[<-hW]at VM|-;have x1:=hx.cell 1;have k0:W.cell? ⟨sb,r.length*8,none⟩=some (.int .i64 u.e.kind):=(aW (VM.block sb E5)).trans k0;have HB:=bD (h.below VM);have CA:=bD VM;have eo:base<=w.heap.size:=by omega
 clear hW b0 cg qy h VM hx;by_cases h4:u.e.kind=4\/u.e.kind=7
 ·have hb:(u.e.kind==4)=true\/(u.e.kind==4)=false/\(u.e.kind==7)=true:=by
   rcases h4 with h4|h4
   ·exact .inl (by rw[h4];rfl)
   ·exact .inr ⟨by rw[h4];rfl,by rw[h4];rfl⟩
  have hF:Hy (mF (u::r) t=(u::r,if t.text.all cV then 0 else 42)):=by unfold Hy mF;exact ae h4
  clear h4;have hT:=fun W=>Any.strings_Trim_laid lays160 (by kernel_rfl) (bs t.text) ⟨#[32,9,10,13]⟩ W (by rw[bJ];omega) (by decide) (ascii_of_all (by decide));have hZ:=TO t.text;have e1:(bs t.text).data.toList=t.text:=by simp[bs]
  rw[e1]at hT;obtain⟨Z,hZ2⟩:∃Z,Z=Lib.trimS t.text [32,9,10,13]:=⟨_,rfl⟩;have hT2:∀W,Calls prog 100 #[.string (bs t.text),.string ⟨#[32,9,10,13]⟩] W fun e w'=>e=.returned (.string (bs Z))/\Below W.heap.size W w':=fun W=>by rw[hZ2];exact hT W
  rw[<-hZ2]at hZ;have HT:=bD hT2;have HZ:=bD hZ;clear hT hT2 hZ hZ2 e1;rcases hb with hb|⟨hb,lH⟩
  ·go_wp2_with fail;refine(HT.o W).mono ?_;rintro en w3 ⟨rfl,h3⟩;have gI:=bD (HB.o.below h3);have KZ:Hy (Below w.heap.size w w3):=CA.o.trans (h3.mono CA.o.size);clear h3;by_cases hz:Z=[]
   ·have hq:(bs Z).toList.isEmpty=true:=by rw[bQ,hz];rfl
    have cg:t.text.all cV=true:=HZ.o.1 hz;have TN:=bD (hF.out.trans (by rw[ae cg]:_=(u::r,(0:Int))));clear hz cg;go_wp2_with fail;go_ret;rw[TN.out];exact gS gI.o (aF _ _) KZ.o eo
   ·have hq:(bs Z).toList.isEmpty=false:=by rw[bQ];simpa using hz
    have cg:¬t.text.all cV=true:=fun e=>hz (HZ.o.2 e);have TN:=bD (hF.out.trans (by rw[aa cg]:_=(u::r,(42:Int))));clear hz cg;go_wp2_with fail;go_ret;rw[TN.out];exact gS gI.o (aF _ _) KZ.o eo
  ·go_wp2_with fail;refine(HT.o W).mono ?_;rintro en w3 ⟨rfl,h3⟩;have gI:=bD (HB.o.below h3);have KZ:Hy (Below w.heap.size w w3):=CA.o.trans (h3.mono CA.o.size);clear h3;by_cases hz:Z=[]
   ·have hq:(bs Z).toList.isEmpty=true:=by rw[bQ,hz];rfl
    have cg:t.text.all cV=true:=HZ.o.1 hz;have TN:=bD (hF.out.trans (by rw[ae cg]:_=(u::r,(0:Int))));clear hz cg;go_wp2_with fail;go_ret;rw[TN.out];exact gS gI.o (aF _ _) KZ.o eo
   ·have hq:(bs Z).toList.isEmpty=false:=by rw[bQ];simpa using hz
    have cg:¬t.text.all cV=true:=fun e=>hz (HZ.o.2 e);have TN:=bD (hF.out.trans (by rw[aa cg]:_=(u::r,(42:Int))));clear hz cg;go_wp2_with fail;go_ret;rw[TN.out];exact gS gI.o (aF _ _) KZ.o eo
 ·have eY:(u.e.kind==4)=false:=by rw[ai];exact fun e=>h4 (.inl e)
  have lH:(u.e.kind==7)=false:=by rw[ai];exact fun e=>h4 (.inr e)
  have hF:Hy (mF (u::r) t=(kO (u::r) (dH t.text),0)):=by unfold Hy mF;exact aa h4
  clear h4;go_wp2_with fail;refine(Ah (dH t.text) (.slice none 0 0) W HB.o (by rw[bx];omega) hk (T:=fun _=>False) cS (fun _ h=>h.elim) hB).mono ?_;rintro en w3 ⟨rfl,h1,h2⟩;go_wp2_with fail;go_ret;rw[hF.out];refine⟨rfl,?_,(CA.o.mono eo).trans h2⟩;rw[Dd];obtain⟨v',IG,pT,h3,h4⟩:=h1;exact⟨v',IG,pT,h3,(rH CA.o).trans h4 CA.o.size (fun _ _ h=>h)⟩
theorem K0(a b:Bt):((bs a).toList==(bs b).toList)=(a==b):=by rw[bQ,bQ]
theorem I1(PB:Nat)(p x:bY)(w:World)(hp:w.cell? ⟨PB,0,none⟩=some (.string (bs p.name))):
 Calls prog 104 #[.agg #[.string (bs x.name),.string (bs x.value)],.pointer (some ⟨PB,0,none⟩)] w fun en w'=>en=.returned (.bool (x.name==p.name))/\Below w.heap.size w w':=by
 have hb:Below w.heap.size w (w.alloc (.cells #[.string (bs x.name),.string (bs x.value)] 156)):=cU _ _;have VO:(w.alloc (.cells #[.string (bs x.name),.string (bs x.value)] 156)).cell? ⟨PB,0,none⟩=some (.string (bs p.name)):=by
  refine(aW (hb.block PB ?_)).trans hp;by_cases h:PB<w.heap.size
  ·exact h
  ·simp[World.cell?,h]at hp
 have HB:=bD hb;clear hb hp;obtain⟨q,hq⟩:∃q,q=(x.name==p.name):=⟨_,rfl⟩;have xo:((bs x.name).toList==(bs p.name).toList)=q:=by rw[K0,hq]
 rw[<-hq];clear hq;go_enter func104,ntmps104;go_wp2_with fail;go_ret;refine⟨?_,HB.o⟩
 first
  |rfl
  |(show Ending.returned (.bool _)=_;congr 2;try exact xo)
theorem Cc(PB:Nat)(p:bY)(l:List bY)(v:Value)(F:Nat->Prop)(w:World)(hp:w.cell? ⟨PB,0,none⟩=some (.string (bs p.name)))(hv:GR w F (.row 2 (l.map bY.gv)) [v])(hl:l.length<=100000):
 Calls prog 138 #[v,.func (.func 104) #[] #[.pointer (some ⟨PB,0,none⟩)]] w fun en w'=>∃z:Int,en=.returned (.int .i64 z)/\decide (0<=z)=l.any (fun x=>x.name==p.name)/\Below w.heap.size w w':=by
 obtain⟨A,c,rfl,zQ,mz,dS⟩:=dV (GR.du _ _ hv);have ub:=bD dS;clear dS hv mz;go_enter func138,ntmps138;go_wp2_with fail;go_loopw [5,8] (fun _ i wr=>∃k:Nat,k<=l.length/\i=.int .i64 k/\Below w.heap.size w wr/\Hy ((l.take k).any (fun x=>x.name==p.name)=false))
  (fun _ i wr=>l.length-(intOf i).toNat)
 case atStart=>exact⟨0,ax _,rfl,aF _ _,rfl⟩
 case round=>
  obtain⟨k,hk,rfl,hb,HO⟩:=hrel;by_cases bW:k<l.length
  ·obtain⟨b,off,rfl,⟨_,tT⟩,dS⟩:=ub.o (by rintro rfl;simp at bW);obtain⟨c0,c1⟩:=dS k bW;have e0:=(hb.cell (p:=⟨b,off+k*2,none⟩) tT).trans c0;have e1:=(hb.cell (p:=⟨b,off+k*2+1,none⟩) tT).trans c1;have hPB:PB<w.heap.size:=by
    by_cases h:PB<w.heap.size
    ·exact h
    ·simp[World.cell?,h]at hp
   have ep:=(hb.cell (p:=⟨PB,0,none⟩) hPB).trans hp;have sk:Hy ((l.take (k+1)).any (fun x=>x.name==p.name)=(l[k].name==p.name)):=by
    rw[Hy,aC bW,bf,HO.o];simp
   have Wf:Hy (l.any (fun x=>x.name==p.name)=((l[k].name==p.name)||(l.drop (k+1)).any (fun x=>x.name==p.name))):=by
    have h1:l=l.take (k+1)++l.drop (k+1):=(bt _ _).symm;rw[Hy,<-sk.o,<-bf,<-h1]
   generalize so:l[k]=t at*;have HB:=bD hb;clear so c0 c1 dS hb;go_wp2_with fail;refine(I1 PB p t wr ep).mono ?_;rintro en w3 ⟨rfl,h3⟩;have gI:=bD (HB.o.trans (h3.mono HB.o.size));clear h3;by_cases hq:(t.name==p.name)=true
   ·rw[hq]at Wf sk|-;go_wp2_with fail;go_ret;refine⟨k,rfl,?_,gI.o⟩;rw[Wf.o];simp
   ·have hq:(t.name==p.name)=false:=by simpa using hq
    rw[hq]at Wf sk|-;go_wp2_with fail;refine⟨⟨k+1,bW,by simp,gI.o,sk.o⟩,?_⟩;simp[intOf];omega
  ·have ln:k=l.length:=by omega
   subst ln;rw[aM]at HO;go_wp2_with fail;go_ret;refine⟨-1,rfl,?_,hb⟩;rw[HO.o];rfl
theorem xE(PB:Nat)(p:bY)(l:List bY)(v:Value)(F:Nat->Prop)(w:World)(hp:w.cell? ⟨PB,0,none⟩=some (.string (bs p.name)))(hv:GR w F (.row 2 (l.map bY.gv)) [v])(hl:l.length<=100000):
 Calls prog 103 #[v,.func (.func 104) #[] #[.pointer (some ⟨PB,0,none⟩)]] w fun en w'=>en=.returned (.bool (l.any (fun x=>x.name==p.name)))/\Below w.heap.size w w':=by
 have hI:=Cc PB p l v F w hp hv hl;obtain⟨A,c,rfl,-,-,-⟩:=dV hv;have HI:=bD hI;clear hI hv hp;go_enter func103,ntmps103;go_wp2_with fail;refine HI.o.mono ?_;rintro en w3 ⟨z,rfl,hz,h3⟩;have HZ:=bD hz;clear hz;have H3:=bD h3;clear h3 HI;go_wp2_with fail;go_ret;refine⟨?_,H3.o⟩
 show Ending.returned (.bool _)=_
 exact congrArg (fun b=>Ending.returned (.bool b)) HZ.o
section
variable {P:Program} {ops:Array Oper} {Q:Exit->Act->World->Prop} {md:Region.Mode} {S S':World->Prop}
theorem mI(h:∀w,S' w->S w):∀(fuel:Nat) (listed:Array Bool) (a:Act) (w:World),wpAnyH P md ops Q S' fuel listed a w->wpAnyH P md ops Q S fuel listed a w
 |0,_,_,_,h'=>h'
 |fuel+1,_,_,_,h'=>⟨h'.1,fun i hi=>wpOp_mono (fun a' w' h2=>⟨h w' h2.1,mI h fuel _ a' w' h2.2⟩) (h'.2 i hi)⟩
end
theorem De(s:Bt):∃(k:Int) (a:Bool) (i:Int) (f g:Value),GH s=.agg #[.int .i64 k,.bool a,.int .i64 i,f,g]/\f.oneCell'=true/\g.oneCell'=true/\
 ∀q,eW s=some q->k=q.kind/\a=q.alone/\i=q.ej/\f=.func (.func (gQ q.kind)) #[] #[]/\g=.func (.func (gR q.kind)) #[] #[]:=by
 unfold GH;cases eW s with
 |none=>exact⟨_,_,_,_,_,rfl,rfl,rfl,fun q h=>by cases h⟩
 |some q=>exact⟨_,_,_,_,_,rfl,rfl,rfl,fun q' h=>by injection h with h;subst h;exact⟨rfl,rfl,rfl,rfl,rfl⟩⟩
def Ai(W:World)(R:Nat)(c0 c1 c2 c3 c4:Value):World:=((((W.setCell ⟨R,0,none⟩ c0).setCell ⟨R,1,none⟩ c1).setCell ⟨R,2,none⟩ c2).setCell ⟨R,3,none⟩ c3).setCell ⟨R,4,none⟩ c4
theorem K3{W:World}{X R:Nat}{ty:TypeId}{cs:Array Value}(h:bL W X ty cs)(db:X≠R)(c0 c1 c2 c3 c4:Value):bL (Ai W R c0 c1 c2 c3 c4) X ty cs:=
 ((((h.gf (p:=⟨R,0,none⟩) db c0).gf (p:=⟨R,1,none⟩) db c1).gf (p:=⟨R,2,none⟩) db c2).gf (p:=⟨R,3,none⟩) db c3).gf (p:=⟨R,4,none⟩) db c4
theorem K6{W:World}{M R n:Nat}{D:DataW Value}{P:Program}{k:TypeId}(h:W.ownsMap P k mX M n D)(db:M≠R)(c0 c1 c2 c3 c4:Value):(Ai W R c0 c1 c2 c3 c4).ownsMap P k mX M n D:=
 ((((h.setCell (a:=⟨R,0,none⟩) db c0).setCell (a:=⟨R,1,none⟩) db c1).setCell (a:=⟨R,2,none⟩) db c2).setCell (a:=⟨R,3,none⟩) db c3).setCell (a:=⟨R,4,none⟩) db c4
theorem Df{B:Nat}{W0 W:World}{R:Nat}(h:Below B W0 W)(hR:B<=R)(c0 c1 c2 c3 c4:Value):Below B W0 (Ai W R c0 c1 c2 c3 c4):=
 ((((h.setCell (p:=⟨R,0,none⟩) hR c0).setCell (p:=⟨R,1,none⟩) hR c1).setCell (p:=⟨R,2,none⟩) hR c2).setCell (p:=⟨R,3,none⟩) hR c3).setCell (p:=⟨R,4,none⟩) hR c4
theorem K7{base B:Nat}{v:Value}{r:List Level}{u:Level}{kvs:List Value}{own:Nat->Option Nat}(t:bG)(av:Value)(w:World)(h:FC w base B v (r.reverse++[u]) kvs own)(hr:r.length<=100)
 (hk:∀x,x∈u::r->x.e.bE.length<=10000) (hB:base<=B) (ht:t.text.length<=100000000):
 Calls prog 67 #[.pointer (some ⟨B,0,none⟩),.agg #[.int .i64 t.kind,.string (bs t.text),av]] w (uz base B v own (jA (u::r) t) w):=by
 have hs:t.text.length<=maxLen:=by unfold maxLen;omega
 obtain⟨rk,ra,ri,rf,rg,hRV,hf1,mn,hRQ⟩:=De t.text;obtain⟨w0,SL⟩:∃w0,w0=w.alloc (.cells #[.int .i64 t.kind,.string (bs t.text),av] 75):=⟨_,rfl⟩;have hx:bL w0 w.heap.size 75 #[.int .i64 t.kind,.string (bs t.text),av]:=by rw[SL];exact bL.new w _ _
 have x1:=hx.cell 1;have Yy:w0.heap.size=w.heap.size+1:=by rw[SL,size_alloc]
 have HW0:=bD SL;have xB:=bD Yy;have HRQ:=bD hRQ;have CX:=bD hRV;have HH:=bD h;clear hRQ hRV h;go_enter func67,ntmps67;clear SL;go_upto_region 1 with(fail)
 rw[<-HW0.o];go_cut [5,6]from 9 to 84 (fun rv iv wx=>∃R:Nat,rv=.pointer (some ⟨R,0,none⟩)/\iv=.bool (eW t.text).isSome/\Hy (bL wx R 151 #[.int .i64 rk,.bool ra,.int .i64 ri,rf,rg])/\Hy (Below w0.heap.size w0 wx))
 case first=>
  have dh:bL w0.drew w.heap.size 75 #[.int .i64 t.kind,.string (bs t.text),av]:=hx;refine aL (S:=(fun w'=>bL w' w.heap.size 75 #[.int .i64 t.kind,.string (bs t.text),av])) (by kernel_rfl) ?_;change wpAnyH _ _ _ _ _ _ _ _ (World.drew _);refine mO 1 ?_ dh ?_ ?_;rotate_left
  ·(intro w_ cY;have s1:=bL.cell cY 1;go_simp;try with_reducible rfl)
  refine mO 2 ?_ dh ?_ ?_;rotate_left
  ·(intro w_ cY;have s1:=bL.cell cY 1;go_simp;try with_reducible rfl)
  refine bC (rs:=[0,7]) (by kernel_rfl) (by simp) ?_;refine AllReadyH.cons rfl (fun K_ bP=>?_) (AllReadyH.cons rfl (fun K_ bP=>?_) AllReadyH.nil)
  ·go_simp;refine(oB w0.drew).mono ?_;rintro en w1 ⟨rfl,hM,h1⟩;have zX:w0.drew.heap.size=w.heap.size+1:=xB.out;rw[zX]at hM|-;obtain⟨mb,CB⟩:∃mb,mb=w.heap.size+1:=⟨_,rfl⟩;rw[<-CB]at hM|-;have pX:bL w1 w.heap.size 75 #[.int .i64 t.kind,.string (bs t.text),av]:=bL.below dh h1 (bL.lt dh);refine bP.out _ _ (by exact pX) fun _=>?_;clear bP K_;clear CB;refine mI (S':=fun w'=>bL w' w.heap.size 75 #[.int .i64 t.kind,.string (bs t.text),av]/\w'.ownsMap prog 9 mX mb 11 nZ) (fun _ h=>h.1) _ _ _ _ ?_;refine mO 3 ?_ ⟨pX,hM⟩ ?_ ?_;rotate_left
   ·(intro w_ cY;have hl:(Instr.lookup 153 (.map (some mb)) (.string (bs t.text)) true).run prog w_=.ok (.tuple #[.agg #[.int .i64 rk,.bool ra,.int .i64 ri,rf,rg],.bool (eW t.text).isSome]) w_:=by(rw[<-CX.o];exact pW cY.2 hs true)
     go_simp;try with_reducible rfl)
   go_simp;refine dB 4 ⟨pX,hM⟩ ?_;refine dB 5 ⟨pX,hM⟩ ?_;refine dB 6 ⟨pX,hM⟩ ?_;have cg:Below w1.heap.size w1 (w1.alloc (.cells #[.int .i64 0,.bool false,.int .i64 0,.nilFunc,.nilFunc] 151)):=cU _ _;have hS2:=pX.below cg pX.lt;have hM2:=hM.alloc (.cells #[.int .i64 0,.bool false,.int .i64 0,.nilFunc,.nilFunc] 151);refine fr 7 (fun K_ bP=>?_);go_simp;refine bP.out _ _ (by exact⟨hS2,hM2⟩) fun _=>?_;clear bP K_;have zb:bL (w1.alloc (.cells #[.int .i64 0,.bool false,.int .i64 0,.nilFunc,.nilFunc] 151)) w1.heap.size 151 #[.int .i64 0,.bool false,.int .i64 0,.nilFunc,.nilFunc]:=bL.new w1 _ _;have sf:∀(W:World) (a:Addr) (m:Mode),(store a rf m).run prog W=stored prog W a rf m:=fun W a m=>run_store _ W a rf m hf1;have sg:∀(W:World) (a:Addr) (m:Mode),(store a rg m).run prog W=stored prog W a rg m:=fun W a m=>run_store _ W a rg m mn;obtain⟨z0,z1,z2,z3,z4⟩:=kK zb;obtain⟨y0,y1,y2,y3,y4⟩:=xV zb;refine fr 8 (fun K_ bP=>?_);go_simp;have Cd:Below w1.heap.size w1 (w1.alloc (.cells #[.int .i64 rk,.bool ra,.int .i64 ri,rf,rg] 151)):=cU _ _;have wz:=pX.below Cd pX.lt;have NQ:=hM.alloc (.cells #[.int .i64 rk,.bool ra,.int .i64 ri,rf,rg] 151);refine bP.out _ _ (by exact⟨wz,NQ⟩) fun _=>?_;clear bP K_;refine mO 9 ?_ (by exact⟨wz,NQ⟩) ?_ ?_;rotate_left
   ·(intro w_ cY;clear cY;go_simp;try with_reducible rfl)
   refine aJ (by kernel_rfl) ?_ _;go_wp2_with fail;go_meet
   case rel=>exact⟨_,rfl,rfl,bL.new w1 _ _,(below_drewN (aF _ _) 1).trans ((h1.mono (by rw[xB.out];exact Nat.le_of_eq zX.symm)).trans (Cd.mono (by have:=h1.size;omega)))⟩
  ·go_simp;have sK:Below w0.heap.size w0 (w0.alloc (.cells #[.int .i64 0,.bool false,.int .i64 0,.nilFunc,.nilFunc] 151)).drew:=(cU _ _).drew;have hA:=bL.below (B:=w0.heap.size) hx sK hx.lt;have zb0:bL (w0.alloc (.cells #[.int .i64 0,.bool false,.int .i64 0,.nilFunc,.nilFunc] 151)).drew (w.heap.size+1) 151 #[.int .i64 0,.bool false,.int .i64 0,.nilFunc,.nilFunc]:=by
    rw[<-xB.out];exact bL.new w0 _ _
   have lQ:(w0.alloc (.cells #[.int .i64 0,.bool false,.int .i64 0,.nilFunc,.nilFunc] 151)).drew.heap.size=w.heap.size+1+1:=by
    show(w0.alloc _).heap.size=_
    rw[size_alloc,xB.out]
   have xy:=bD lQ;clear lQ;refine bP.out _ _ (by exact hA) fun _=>?_;clear bP K_;generalize(w0.alloc (.cells #[.int .i64 0,.bool false,.int .i64 0,.nilFunc,.nilFunc] 151)).drew=wa at*;refine fr 0 (fun K_ bP=>?_);go_simp;refine(oB wa).mono ?_;rintro en w1 ⟨rfl,hM,h1⟩;obtain⟨mb,CB⟩:∃mb,mb=wa.heap.size:=⟨_,rfl⟩;rw[<-CB]at hM|-;have HMB:Hy (mb≠w.heap.size+1):=by have:=xy.o;rw[Hy,CB];omega
   clear CB;have pX:bL w1 w.heap.size 75 #[.int .i64 t.kind,.string (bs t.text),av]:=bL.below hA h1 (bL.lt hA);have zb:bL w1 (w.heap.size+1) 151 #[.int .i64 0,.bool false,.int .i64 0,.nilFunc,.nilFunc]:=bL.below zb0 h1 (bL.lt zb0);refine bP.out _ _ (by exact pX) fun _=>?_;clear bP K_;refine mI (S':=fun w'=>bL w' w.heap.size 75 #[.int .i64 t.kind,.string (bs t.text),av]/\w'.ownsMap prog 9 mX mb 11 nZ) (fun _ h=>h.1) _ _ _ _ ?_;refine mO 3 ?_ ⟨pX,hM⟩ ?_ ?_;rotate_left
   ·(intro w_ cY;have hl:(Instr.lookup 153 (.map (some mb)) (.string (bs t.text)) true).run prog w_=.ok (.tuple #[.agg #[.int .i64 rk,.bool ra,.int .i64 ri,rf,rg],.bool (eW t.text).isSome]) w_:=by(rw[<-CX.o];exact pW cY.2 hs true)
     go_simp;try with_reducible rfl)
   go_simp;refine dB 4 ⟨pX,hM⟩ ?_;refine dB 5 ⟨pX,hM⟩ ?_;refine dB 6 ⟨pX,hM⟩ ?_;have sf:∀(W:World) (a:Addr) (m:Mode),(store a rf m).run prog W=stored prog W a rf m:=fun W a m=>run_store _ W a rf m hf1;have sg:∀(W:World) (a:Addr) (m:Mode),(store a rg m).run prog W=stored prog W a rg m:=fun W a m=>run_store _ W a rg m mn;obtain⟨z0,z1,z2,z3,z4⟩:=kK zb;obtain⟨y0,y1,y2,y3,y4⟩:=xV zb;refine fr 8 (fun K_ bP=>?_);go_simp;have wz:bL (Ai w1 (w.heap.size+1) (.int .i64 rk) (.bool ra) (.int .i64 ri) rf rg) w.heap.size 75 #[.int .i64 t.kind,.string (bs t.text),av]:=K3 pX (by omega) _ _ _ _ _;have NQ:(Ai w1 (w.heap.size+1) (.int .i64 rk) (.bool ra) (.int .i64 ri) rf rg).ownsMap prog 9 mX mb 11 nZ:=K6 hM HMB.o _ _ _ _ _;have ZW:bL (Ai w1 (w.heap.size+1) (.int .i64 rk) (.bool ra) (.int .i64 ri) rf rg) (w.heap.size+1) 151 #[.int .i64 rk,.bool ra,.int .i64 ri,rf,rg]:=((((zb.cL 0 _).cL 1 _).cL 2 _).cL 3 _).cL 4 _;have Iv:Below w0.heap.size w0 (Ai w1 (w.heap.size+1) (.int .i64 rk) (.bool ra) (.int .i64 ri) rf rg):=Df (sK.trans (h1.mono sK.size)) (by rw[xB.out];omega) _ _ _ _ _;unfold Ai at wz NQ ZW Iv;refine bP.out _ _ (by exact⟨wz,NQ⟩) fun _=>?_;clear bP K_ z0 z1 z2 z3 z4 y0 y1 y2 y3 y4;refine mO 9 ?_ (by exact⟨wz,NQ⟩) ?_ ?_;rotate_left
   ·(intro w_ cY;clear cY;go_simp;try with_reducible rfl)
   refine aJ (by kernel_rfl) ?_ _;have ny:=bD ZW;have gI:=bD Iv;clear ZW Iv wz NQ;go_wp2_with fail;go_meet
   case rel=>exact⟨_,rfl,rfl,ny.o,gI.o⟩
 case rest=>
  obtain⟨R,rfl,rfl,HR,HB⟩:=hcut;have TP:Below w.heap.size w w0:=by rw[HW0.o];exact cU _ _
  have Wc:=TP.trans (HB.o.mono (by rw[xB.out];omega));have hX:bL wc w.heap.size 75 #[.int .i64 t.kind,.string (bs t.text),av]:=bL.below hx HB.o hx.lt;have FE:=HH.o.below Wc;have eo:base<=w.heap.size:=au hB (Nat.le_of_lt HH.o.iz.lt);have CA:=bD Wc;clear x1 hx Yy Wc TP;cases hq:eW t.text with
  |none=>
   have HF:Hy (jA (u::r) t=(u::r,40)):=by unfold Hy jA;rw[hq]
   have ai9:(none:Option Ca).isSome=false:=rfl;clear hq hX;have qT:=bD FE;clear FE;go_wp2_with fail;go_quiet (fail);go_wp2_with fail;go_ret;rw[HF.o];exact gS qT.o (below_drewN (aF _ _) _) CA.o eo
  |some q=>
   obtain⟨rfl,rfl,rfl,rfl,rfl⟩:=HRQ.o q hq;have HF:Hy (jA (u::r) t=if q.alone then(u::r,40)else if r=[]\/u.name≠t.text\/u.e.kind=4/\u.e.bE.length≠2\/u.e.kind=7/\u.e.bE.length=0 then(u::r,42)else(kO r u.e,0)):=by unfold Hy jA;rw[hq]
   have ai9:(some q).isSome=true:=rfl;clear hq;have qT:=bD FE;clear FE;go_wp2_with fail;go_upto_region 3 with(fail)
   go_cut [24]from 16 to 25 (fun v wx=>v=.bool q.alone/\Hy (Below w.heap.size w wx)/\Hy (bL wx w.heap.size 75 #[.int .i64 t.kind,.string (bs t.text),av]))
   case first=>
    refine aL (S:=(fun w'=>bL w' w.heap.size 75 #[.int .i64 t.kind,.string (bs t.text),av])) (by kernel_rfl) ?_;change wpAnyH _ _ _ _ _ _ _ _ (World.drew _);refine dB 0 hX ?_;refine dB 1 hX ?_;refine dB 2 hX ?_;refine mO 4 ?_ hX ?_ ?_;rotate_left
    ·(intro w_ cY;have s1:=bL.cell cY 1;go_simp;try with_reducible rfl)
    refine mO 5 ?_ hX ?_ ?_;rotate_left
    ·(intro w_ cY;have s1:=bL.cell cY 1;go_simp;try with_reducible rfl)
    refine fr 3 (fun K_ bP=>?_);go_simp;refine(oB wc.drew).mono ?_;rintro en w3 ⟨rfl,hM,h3⟩;obtain⟨mb,CB⟩:∃mb,mb=wc.drew.heap.size:=⟨_,rfl⟩;rw[<-CB]at hM|-;clear CB;have wz:bL w3 w.heap.size 75 #[.int .i64 t.kind,.string (bs t.text),av]:=bL.below (show bL wc.drew _ _ _ from hX) h3 (bL.lt hX);refine bP.out _ _ (by exact wz) fun _=>?_;clear bP K_;refine mI (S':=fun w'=>bL w' w.heap.size 75 #[.int .i64 t.kind,.string (bs t.text),av]/\w'.ownsMap prog 9 mX mb 11 nZ) (fun _ h=>h.1) _ _ _ _ ?_;refine mO 6 ?_ ⟨wz,hM⟩ ?_ ?_;rotate_left
    ·(intro w_ cY;have hl:(Instr.lookup 153 (.map (some mb)) (.string (bs t.text)) false).run prog w_=.ok (.agg #[.int .i64 q.kind,.bool q.alone,.int .i64 q.ej,.func (.func (gQ q.kind)) #[] #[],.func (.func (gR q.kind)) #[] #[]]) w_:=by(rw[<-CX.o];exact pW cY.2 hs false)
      go_simp;try with_reducible rfl)
    go_simp;refine mO 7 ?_ ⟨wz,hM⟩ ?_ ?_;rotate_left
    ·(intro w_ cY;have hfl:(Instr.field 151 (.agg #[.int .i64 q.kind,.bool q.alone,.int .i64 q.ej,.func (.func (gQ q.kind)) #[] #[],.func (.func (gR q.kind)) #[] #[]]) 1).run prog w_=.ok (.bool q.alone) w_:=by kernel_rfl
      go_simp;try with_reducible rfl)
    refine dB 8 ⟨wz,hM⟩ ?_;refine aJ (by kernel_rfl) ?_ _;have gI:Hy (Below w.heap.size w w3):=(CA.o.drew).trans (h3.mono (B':=w.heap.size) CA.o.size);have MZ:=bD wz;clear h3 hM hX;go_wp2_with fail;go_meet
    case rel=>exact⟨rfl,gI.o,MZ.o⟩
   case rest=>
    obtain⟨rfl,gI,HX⟩:=hcut;clear hX HB HR qT;have qT:=bD (HH.o.below gI.o);cases J7:q.alone with
    |true=>
     have qq:Hy (jA (u::r) t=(u::r,40)):=HF.o.trans (by rw[ae J7]);clear J7;go_wp2_with fail;go_ret;rw[qq.o];exact gS qT.o (aF _ _) gI.o eo
    |false=>
     have qq:Hy (jA (u::r) t=if r=[]\/u.name≠t.text\/u.e.kind=4/\u.e.bE.length≠2\/u.e.kind=7/\u.e.bE.length=0 then(u::r,42)else(kO r u.e,0)):=HF.o.trans (by rw[aa (by rw[J7];decide)]);clear J7 HF;obtain⟨sb,cap,rfl,sJ,mz,E5,VJ⟩:=qT.o.form;obtain⟨kvr,kv,rfl,xA⟩:=qT.o.Nw;rw[bx]at*;have b0:=qT.o.iz.cell 0;go_wp2_with fail;refine(rG wc b0 sJ (by omega)).mono ?_;rintro en w2 ⟨rfl,m,oM⟩;have tX:Below w.heap.size w w2:=by rw[oM];exact below_drewN gI.o m
     have VP:bL w2 w.heap.size 75 #[.int .i64 t.kind,.string (bs t.text),av]:=by rw[oM];exact HX.o
     clear oM b0 qT HX gI E5;have FE:=HH.o.below tX;obtain⟨ux,wJ⟩:=FE.yH.Nw r.reverse.length u kv (by simp) (by rw[bx,<-xA];simp);obtain⟨Ak,ck,rfl⟩:=ux.form;rw[ah,bx]at*;have ib:=FE.yH.row;rw[af,aR,bx]at ib;have qy:∀j,j<8->w2.cell? ⟨sb,r.length*8+j,none⟩=(ik u (.slice Ak u.e.bE.length ck))[j]?:=fun j hj=>by
      rw[ib.cellAt _ (by omega)];exact xz r.length j hj (by simp) (by rw[<-xA];simp)
     have b0:=FE.iz.cell 0;have k0:w2.cell? ⟨sb,r.length*8,none⟩=some (.int .i64 u.e.kind):=qy 0 (by omega);have k1:w2.cell? ⟨sb,r.length*8+1,none⟩=some (.string (bs u.e.text)):=qy 1 (by omega);have k2:w2.cell? ⟨sb,r.length*8+2,none⟩=some (.string (bs u.e.src)):=qy 2 (by omega);have k3:w2.cell? ⟨sb,r.length*8+3,none⟩=some (.string (bs u.e.jZ)):=qy 3 (by omega);have k4:w2.cell? ⟨sb,r.length*8+4,none⟩=some (.bool u.e.fp):=qy 4 (by omega);have k5:w2.cell? ⟨sb,r.length*8+5,none⟩=some (.string (bs u.e.test)):=qy 5 (by omega);have k6:w2.cell? ⟨sb,r.length*8+6,none⟩=some (.slice Ak u.e.bE.length ck):=qy 6 (by omega);have k7:w2.cell? ⟨sb,r.length*8+7,none⟩=some (.string (bs u.name)):=qy 7 (by omega);have HKD:=bD ux;have WS:=bD wJ;have E6:=bD FE;have iL:=bD VP;have dm:=bD tX;clear qy ib ux wJ FE VP tX;go_upto_region 5 with(fail)
     obtain⟨w4,qn⟩:∃w4,w4=w2.alloc (.cells #[.int .i64 u.e.kind,.string (bs u.e.text),.string (bs u.e.src),.string (bs u.e.jZ),.bool u.e.fp,.string (bs u.e.test),.slice Ak u.e.bE.length ck,.string (bs u.name)] 118):=⟨_,rfl⟩;have hB4:Below w2.heap.size w2 w4:=by rw[qn];exact cU _ _
     have Yz:bL w4 w2.heap.size 118 #[.int .i64 u.e.kind,.string (bs u.e.text),.string (bs u.e.src),.string (bs u.e.jZ),.bool u.e.fp,.string (bs u.e.test),.slice Ak u.e.bE.length ck,.string (bs u.name)]:=by rw[qn];exact bL.new w2 _ _
     rw[<-qn];have iW:=bD hB4;have I2:=bD (E6.o.below hB4);have x1:=(iL.o.below hB4 iL.o.lt).cell 1;have b0:=I2.o.iz.cell 0;have l0:=Yz.cell 0;have l6:=Yz.cell 6;have l7:=Yz.cell 7;have HL4:=bD Yz;have ZX:=bD (HKD.o.below hB4);have PE:Hy (w2.heap.size≠B):=Nat.ne_of_gt E6.o.iz.lt;clear k0 k1 k2 k3 k4 k5 k6 k7 qn hB4 Yz E6 iL HKD;have QW:Hy (Below w.heap.size w w4):=dm.o.trans (iW.o.mono dm.o.size);generalize w2.heap.size=lb at*;have db:=K0 u.name t.text;obtain⟨nb,SJ⟩:∃nb,nb=(u.name==t.text):=⟨_,rfl⟩;rw[<-SJ]at db;have CY:((bs u.name).toList !=(bs t.text).toList)=!nb:=by rw[bne,db]
     have WT:=bD SJ;clear SJ;go_upto_region 6 with(fail)
     go_cut [65]from 33 to 66 (fun v wx=>∃c:Bool,Hy (c=true↔r=[]\/u.name≠t.text\/u.e.kind=4/\u.e.bE.length≠2\/u.e.kind=7/\u.e.bE.length=0)/\v=.bool c/\wx=w4)
     case first=>
      by_cases rB:r=[]
      ·have HC:Hy (r=[]\/u.name≠t.text\/u.e.kind=4/\u.e.bE.length≠2\/u.e.kind=7/\u.e.bE.length=0):=.inl rB;have hd:decide ((r.length:Int)+1<2)=true:=by rw[rB];rfl
       clear rB;go_wp2_with fail;go_meet
       case rel=>exact⟨true,⟨fun _=>HC.o,fun _=>rfl⟩,rfl,rfl⟩
      ·have hd:decide ((r.length:Int)+1<2)=false:=by
        have:=List.length_pos_iff.2 rB;rw[decide_eq_false_iff_not];omega
       have Fk:=bD rB;clear rB;cases nb with
       |false=>
        have HC:Hy (r=[]\/u.name≠t.text\/u.e.kind=4/\u.e.bE.length≠2\/u.e.kind=7/\u.e.bE.length=0):=.inr (.inl (by simpa using WT.o.symm));go_wp2_with fail;go_meet
        case rel=>exact⟨true,⟨fun _=>HC.o,fun _=>rfl⟩,rfl,rfl⟩
       |true=>
        have Nq:u.name=t.text:=by simpa using WT.o.symm
        have P0:=bD Nq;clear Nq;by_cases h4:u.e.kind=4
        ·have eY:(u.e.kind==4)=true:=by rw[h4];rfl
         by_cases h2:u.e.bE.length=2
         ·have cu:((u.e.bE.length:Int)!=2)=false:=by rw[h2];rfl
          have lH:(u.e.kind==7)=false:=by rw[h4];rfl
          have HC:Hy (¬(r=[]\/u.name≠t.text\/u.e.kind=4/\u.e.bE.length≠2\/u.e.kind=7/\u.e.bE.length=0)):=by
           rintro (h|h|h|h)
           ·exact Fk.o h
           ·exact h P0.o
           ·exact h.2 h2
           ·omega
          clear h4 h2;go_wp2_with fail;go_meet
          case rel=>exact⟨false,⟨(fun e=>by cases e),(fun e=>aX e HC.o)⟩,rfl,rfl⟩
         ·have cu:((u.e.bE.length:Int)!=2)=true:=by rw[aQ];omega
          have HC:Hy (r=[]\/u.name≠t.text\/u.e.kind=4/\u.e.bE.length≠2\/u.e.kind=7/\u.e.bE.length=0):=.inr (.inr (.inl ⟨h4,h2⟩));clear h4 h2;go_wp2_with fail;go_meet
          case rel=>exact⟨true,⟨fun _=>HC.o,fun _=>rfl⟩,rfl,rfl⟩
        ·have eY:(u.e.kind==4)=false:=by rw[ai];exact h4
         by_cases h7:u.e.kind=7
         ·have lH:(u.e.kind==7)=true:=by rw[h7];rfl
          by_cases h0:u.e.bE.length=0
          ·have pq:((u.e.bE.length:Int)==0)=true:=by rw[h0];rfl
           have HC:Hy (r=[]\/u.name≠t.text\/u.e.kind=4/\u.e.bE.length≠2\/u.e.kind=7/\u.e.bE.length=0):=.inr (.inr (.inr ⟨h7,h0⟩));clear h4 h7 h0;go_wp2_with fail;go_meet
           case rel=>exact⟨true,⟨fun _=>HC.o,fun _=>rfl⟩,rfl,rfl⟩
          ·have pq:((u.e.bE.length:Int)==0)=false:=by rw[ai];omega
           have HC:Hy (¬(r=[]\/u.name≠t.text\/u.e.kind=4/\u.e.bE.length≠2\/u.e.kind=7/\u.e.bE.length=0)):=by
            rintro (h|h|h|h)
            ·exact Fk.o h
            ·exact h P0.o
            ·exact h4 h.1
            ·exact h0 h.2
           clear h4 h7 h0;go_wp2_with fail;go_meet
           case rel=>exact⟨false,⟨(fun e=>by cases e),(fun e=>aX e HC.o)⟩,rfl,rfl⟩
         ·have lH:(u.e.kind==7)=false:=by rw[ai];exact h7
          have HC:Hy (¬(r=[]\/u.name≠t.text\/u.e.kind=4/\u.e.bE.length≠2\/u.e.kind=7/\u.e.bE.length=0)):=by
           rintro (h|h|h|h)
           ·exact Fk.o h
           ·exact h P0.o
           ·exact h4 h.1
           ·exact h7 h.1
          clear h4 h7;go_wp2_with fail;go_meet
          case rel=>exact⟨false,⟨(fun e=>by cases e),(fun e=>aX e HC.o)⟩,rfl,rfl⟩
     case rest=>
      obtain⟨c,HC,rfl,rfl⟩:=hcut;cases c with
      |true=>
       have V7:Hy (jA (u::r) t=(u::r,42)):=qq.o.trans (ae (HC.o.1 rfl));go_wp2_with fail;go_ret;rw[V7.o];exact gS I2.o (aF _ _) QW.o eo
      |false=>
       have hnc:¬(r=[]\/u.name≠t.text\/u.e.kind=4/\u.e.bE.length≠2\/u.e.kind=7/\u.e.bE.length=0):=fun e=>by have:=HC.o.2 e;cases this
       have V7:Hy (jA (u::r) t=(kO r u.e,0)):=qq.o.trans (aa hnc);have Kv:r≠[]:=fun e=>hnc (.inl e);clear hnc qq HC;obtain⟨x,r,rfl⟩:=List.exists_cons_of_ne_nil Kv;clear Kv;have ZY:x.e.bE.length<=10000:=hk x (by simp);have vK:r.length<=100:=by rw[ak]at hr;omega
       obtain⟨N,hN⟩:∃N,N=(x::r).length:=⟨_,rfl⟩;have Bl:=I2.o.yH;rw[<-hN]at hr sJ xA b0 WS ZX Bl I2|-;have e1:(x::r).reverse.length=N:=by rw[bx,hN]
       obtain⟨pT,zX,MW,hs3⟩:=J4.pop (r:=(x::r).reverse) (kvr:=kvr) (by rw[e1];exact Bl) (by rw[e1];exact xA);rw[e1]at zX MW;rw[List.reverse_cons]at zX;have hT:∀g,own g=some N->pT g=none/\sb≠g/\g≠B/\base<=g/\g<wc.heap.size:=fun g hg=>by
        refine⟨MW g hg,?_,?_,(Bl.lt g N hg).1,(Bl.lt g N hg).2⟩
        ·rintro rfl;have:=Bl.B5 sb rfl;rw[this]at hg;cases hg
        ·rintro rfl;have:=I2.o.free;rw[this]at hg;cases hg
       have hE:GR wc (fun g=>own g=some N) (.row 7 (u.e.bE.map Elem.gv)) [.slice Ak u.e.bE.length ck]:=ZX.o.gr (fun _ h=>h) WS.o;have HS:=bD zX;have MZ:=bD hs3;have HT:=bD hT;have HE:=bD hE;have aj0:=bD I2.o.iz;have TQ:=bD (hs3 B I2.o.free);have aj1:=bD I2.o.ne;have nF:Hy (base<=wc.heap.size):=au eo QW.o.size;clear zX MW hs3 hT hE Bl e1 hN I2 ZX WS HH hk xA;have tQ:(0:Int)<=(N:Int):=by omega
       have Ix:(N:Int)<=(cap:Int):=by omega
       have PT:((N:Int)+1)-1=(N:Int):=by omega
       have zR:=aj0.o.frozen 0;have jz:IntKind.i64.wrap (N:Int)=(N:Int):=aI _ (by omega);go_wp2_with fail;refine wp_region_still_tail 14 (by kernel_rfl) (by kernel_rfl) ?_;change wpStill _ _ (World.drew wc) (fun a'=>wpList _ _ _ _ a' (World.drew wc)) _ _;simp only[List.take_succ_cons,List.take_zero,List.drop_succ_cons,bm]
       repeat still_step
       refine wpStill_nil ?_;clear jz;go_upto_region 9 with(fail)
       obtain⟨w5,tF⟩:∃W,W=(wc.setCell ⟨B,0,none⟩ (.slice (some ⟨sb,0,none⟩) N cap)).drew:=⟨_,rfl⟩;rw[<-tF];have zS:wc.grownBy w5 (some B):=by rw[tF];exact dF (bF (p:=⟨B,0,none⟩) (bR _ _) (.inl rfl) _) 1
       have kM:bL w5 B 115 #[.slice (some ⟨sb,0,none⟩) N cap,.int .i64 0]:=by rw[tF];exact aj0.o.cL 0 _
       have aj2:FC w5 base B (.slice (some ⟨sb,0,none⟩) N cap) (r.reverse++[x]) kvr pT:=⟨kM,HS.o.kept zS (fun k hk=>by injection hk with hk;subst hk;exact⟨TQ.o,aj1.o⟩),TQ.o,aj1.o⟩;have hL5:=HL4.o.grown zS (fun e=>PE.o (ar e));have hE5:GR w5 (fun g=>own g=some N) (.row 7 (u.e.bE.map Elem.gv)) [.slice Ak u.e.bE.length ck]:=GR.mono (fun _ h=>h) (fun k hk bW=>zS.block k bW (fun e=>(HT.o k hk).2.2.1 (ar e))) _ _ HE.o;have hT5:∀g,own g=some N->pT g=none/\(Value.slice (some ⟨sb,0,none⟩) N cap).ownBlock≠some g/\g≠B/\base<=g/\g<w5.heap.size:=fun g hg=>by
        obtain⟨t1,t2,t3,t4,t5⟩:=HT.o g hg;exact⟨t1,(fun e=>t2 (ar e)),t3,t4,br t5 zS.size⟩
       have QX:Hy (Fr w w5 B (.slice (some ⟨sb,0,none⟩) (N+1) cap) own (.slice (some ⟨sb,0,none⟩) N cap) pT (fun _=>False)):=by
        intro k hk hm _;obtain⟨m1,m2,m3⟩:=yJ hm;refine⟨(zS.block k (br hk QW.o.size) (fun e=>m3 (ar e))).trans (QW.o.block k hk),?_⟩;rintro (e|e|e)
        ·exact e (MZ.o k m1)
        ·exact m2 e
        ·exact m3 e
       have kf:Hy (Below base wc w5):=bN zS nF.o (fun k hk=>by injection hk with hk;omega);obtain⟨l0,l1,l2,l3,l4,l5,l6⟩:=ph hL5;have at6:=bD aj2;have HE5:=bD hE5;have HT5:=bD hT5;have FF:Hy (w.heap.size<=w5.heap.size):=au QW.o.size zS.size;clear tF zS kM aj2 hL5 hE5 hT5 b0 x1 l7;go_wp2_with fail;refine(Ah u.e (.slice Ak u.e.bE.length ck) w5 at6.o (by rw[bx];omega) ZY (T:=fun g=>own g=some N) HE5.o HT5.o hB).mono ?_;rintro en w6 ⟨rfl,h1,h2⟩;have H1:=bD h1;have H2:=bD h2;clear h1 h2;go_wp2_with fail;go_ret;rw[V7.o];refine⟨rfl,?_,(QW.o.mono eo).trans (kf.o.trans H2.o)⟩;rw[Dd];obtain⟨v6,Dg,Dh,b6,f6⟩:=H1.o;exact⟨v6,Dg,Dh,b6,QX.o.trans f6 FF.o (fun k hm _ e=>by rw[(yJ hm).1]at e;cases e)⟩
end Go.Proofs.YtejafaaihodehaaGreatDoor
