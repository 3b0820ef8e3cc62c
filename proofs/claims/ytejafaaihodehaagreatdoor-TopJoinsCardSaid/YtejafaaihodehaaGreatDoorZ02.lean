/- Part 2. -/
import Derived.Test.YtejafaaihodehaaGreatDoorZ01
import Derived.Test.YtejafaaihodehaaGreatDoorProg
import Derived.OrdersHeld
import Derived.WalkLawsBesides
import Derived.WalkSpells
import Derived.Outline
import Derived.BigQuiet
set_option linter.all false
set_option maxRecDepth 100000
set_option maxHeartbeats 8000000
namespace Go.Proofs.YtejafaaihodehaaGreatDoor
open Go Go.RowKit Tryz
section
variable {P:Program} {ops:Array Oper} {Q:Exit->Act->World->Prop} {md:Region.Mode} {S:World->Prop}
def CJ(P:Program)(ops:Array Oper)(S:World->Prop)(o:Oper)(v:Value)(a:Act):Prop:=
 Region.wanted o (yielded ops a.tmps)=true/\∃f args,(∀w,(execOp a.eval o).run P w=.ok (.enter f args) w)/\∀w,S w->Calls P f args w fun e w'=>e=.returned v/\w=w'
theorem CJ.wpOp{i:Nat}{o:Oper}{v:Value}{a:Act}(hi:ops[i]?=some o)(h:CJ P ops S o v a){K:Act->World->Prop}{w:World}(hS:S w)(hK:K (a.put o.dst v) w):wpOp P ops Q i K a w:=by
 obtain⟨hw,f,args,h1,h2⟩:=h;unfold Go.wpOp;simp only[hi,hw,if_true];refine .inl ?_;unfold Oper.wp;rw[h1 w];refine Calls.mono (h2 w hS) ?_;rintro e w' ⟨rfl,rfl⟩;exact hK
theorem CJ.same{o:Oper}{v:Value}{a a':Act}(h:CJ P ops S o v a)(he:execOp a'.eval o=execOp a.eval o)(hw:Region.wanted o (yielded ops a'.tmps)=Region.wanted o (yielded ops a.tmps)):CJ P ops S o v a':=by
 obtain⟨h0,f,args,h1,h2⟩:=h;exact⟨hw.trans h0,f,args,fun w=>by rw[he];exact h1 w,h2⟩
def S9(a:Act)(dst:Option Tmp)(a':Act):Prop:=∃(l:_) (u:Value),a'=Act.put {a with defers:=l} dst u
theorem Nf{j:Nat}{oj:Oper}(hj:ops[j]?=some oj)(hs:∀cs b,oj.op≠ .select cs b){K:Act->World->Prop}{a:Act}{w:World}(h:wpOp P ops Q j K a w):
 wpOp P ops Q j (fun a' w'=>S9 a oj.dst a'/\K a' w') a w:=by
 have V3:∀u,S9 a oj.dst (a.put oj.dst u):=fun u=>⟨a.defers,u,rfl⟩;unfold Go.wpOp at*;simp only[hj]at*;by_cases hw:Region.wanted oj (yielded ops a.tmps)=true
 ·rw[ae hw]at h|-;refine h.imp (fun h=>?_) id;unfold Oper.wp at*;revert h;generalize(execOp a.eval oj).run P w=r;intro h;rcases r with⟨n,w'⟩|⟨x,w'⟩
  ·rcases n with u|f|d|_|_
   all_goals simp only[Oper.upon]at h|-
   all_goals first
    |exact⟨V3 _,h⟩
    |exact⟨⟨_,_,rfl⟩,h⟩
    |(refine Calls.mono h fun e w'' he=>?_
      rcases e with u|c|_
      ·exact⟨V3 u,he⟩
      ·exact he
      ·exact he)
    |exact Rows.mono h fun u w'' he=>⟨V3 u,he⟩
    |exact h
  ·rcases x with _|_|_|_|_<;>simp only[Oper.upon]at h|-<;>exact h
 ·rw[aa hw]at h|-;exact⟨V3 _,h⟩
theorem CJ.next{oi oj:Oper}{v:Value}{a a':Act}(h:CJ P ops S oi v a)(hap:oi.apart ops oj=true)(hsi:∀cs b,oi.op≠ .select cs b)(hn:S9 a oj.dst a'):CJ P ops S oi v a':=by
 obtain⟨l,u,rfl⟩:=hn;obtain⟨-,-,h3⟩:=Oper.apart_spec hap;exact h.same (execOp_put (ops:=ops) oi hsi {a with defers:=l} oj.dst u h3) (wanted_put oi {a with defers:=l} oj.dst u h3)
theorem Qw{j:Nat}{oi oj:Oper}{v:Value}(hj:ops[j]?=some oj)(hap:oi.apart ops oj=true)(hsi:∀cs b,oi.op≠ .select cs b)(hsj:∀cs b,oj.op≠ .select cs b)
 (hQ:∀c a w,Q (.panic c) (a.put oi.dst v) w->Q (.panic c) a w) {K:Act->World->Prop} {a:Act} {w:World} (hy:CJ P ops S oi v a) (h:wpOp P ops Q j K (a.put oi.dst v) w):
 wpOp P ops Q j (fun a' w'=>CJ P ops S oi v a'/\K (a'.put oi.dst v) w') a w:=by
 have h1:=wpOp_putIf (S:=fun _=>False) hj hap hsi hsj hQ (.inl ⟨hy.1,fun _ hf=>hf.elim⟩) h;exact wpOp_mono (fun a' w' h2=>⟨hy.next hap hsi h2.1,h2.2.2⟩) (Nf hj hsj h1)
theorem gi{i:Nat}{oi:Oper}{v:Value}{listed:Array Bool}{a:Act}{w:World}{fuel:Nat}(hi:ops[i]?=some oi)(hs:Region.noSelect ops=true)(hf:Region.free md ops listed i=true)
 (hr:(Region.ready md ops listed).contains i=true) (hQ:∀c a w,Q (.panic c) (a.put oi.dst v) w->Q (.panic c) a w) (hy:CJ P ops S oi v a) (hS:S w)
 (h:wpAnyH P md ops Q S fuel (listed.setIfInBounds i true) (a.put oi.dst v) w):wpAnyH P md ops Q S (fuel+1) listed a w:=by
 have ad0:=Region.noSelect_spec hs;have hfr:=fun j oj hj db Zk Px=>Region.free_spec hi hf j oj hj db Zk Px;have JZ:i∈Region.ready md ops listed:=by simpa using hr
 clear hf hr hs;induction fuel generalizing listed a w with
 |zero=>
  refine⟨fun he=>aX (he▸JZ) (by simp),fun j hj=>?_⟩;rcases Classical.em (j=i)with rfl|Zl
  ·exact hy.wpOp hi hS ⟨hS,h⟩
  ·exact aX (ready_mono hj Zl) (by rw[h.1];simp)
 |succ fuel ih=>
  refine⟨fun he=>aX (he▸JZ) (by simp),fun j hj=>?_⟩;rcases Classical.em (j=i)with rfl|Zl
  ·exact hy.wpOp hi hS ⟨hS,h⟩
  ·obtain⟨Zk,oj,hoj,kF⟩:=mem_ready.1 hj;have MT:=(mem_ready.1 JZ).1;have Px:∀e∈oj.after,Region.binds md e=true->e.on≠i:=by
    intro e he hb heq;have h1:=kF e he hb;rw[heq]at h1;rw[Array.getD_eq_getD_getElem?]at h1 MT;cases hl:listed[i]? with
    |none=>rw[hl]at h1;cases h1
    |some b=>
     rw[hl]at h1 MT;have h1:b=true:=h1;have MT:b=false:=MT;rw[h1]at MT;cases MT
   refine wpOp_mono (fun a' w' h3=>⟨h3.2.1,ih h3.1 h3.2.1 ?_ ?_ (ready_mono JZ (Ne.symm Zl))⟩) (Qw hoj (hfr j oj hoj Zl Zk Px) (fun cs b=>ad0 i oi cs b hi) (fun cs b=>ad0 j oj cs b hoj) hQ hy (h.2 j (ready_mono hj Zl)))
   ·rw[Array.setIfInBounds_comm _ _ Zl];exact h3.2.2
   ·intro k ok hk hki aq4 aq5;refine hfr k ok hk hki ?_ aq5;rcases Classical.em (j=k)with rfl|hjk
    ·exact Zk
    ·rwa [getD_set_ne true hjk]at aq4
end
structure bY where
 name:Bt
 value:Bt
 deriving DecidableEq
structure bG where
 kind:Int
 text:Bt
 bK:List bY
 deriving DecidableEq
def bY.gv(p:bY):GV:=.agg [.str p.name,.str p.value]
def bG.gv(t:bG):GV:=.agg [.int t.kind,.str t.text,.row 2 (t.bK.map bY.gv)]
def Py:bG:=⟨0,[],[]⟩
theorem zN{w:World}{F:Nat->Prop}{k:Int}{t:Bt}{l:List GV}{cs:List Value}(h:GR w F (.agg [.int k,.str t,.row 2 l]) cs):
 ∃va,cs=[.int .i64 k,.string (bs t),va]/\GR w F (.row 2 l) [va]:=by
 obtain⟨a,d,rfl,h1,h2⟩:=cd.1 (nN.1 h);obtain⟨a2,d2,rfl,h3,h4⟩:=cd.1 h2;obtain⟨a3,d3,rfl,h5,h6⟩:=cd.1 h4;rw[lK]at h1;rw[eQ]at h3;rw[ma]at h6;subst h1 h3 h6;obtain⟨A,c,xs,rfl,_⟩:=jR.1 h5;exact⟨_,rfl,h5⟩
theorem ke{w:World}{F:Nat->Prop}{k:Int}{t:Bt}{l:List GV}{va:Value}(h:GR w F (.row 2 l) [va]):
 GR w F (.agg [.int k,.str t,.row 2 l]) [.int .i64 k,.string (bs t),va]:=
 nN.2 (cd.2 ⟨[.int .i64 k],[.string (bs t),va],rfl,lK.2 rfl,cd.2 ⟨[.string (bs t)],[va],rfl,eQ.2 rfl,cd.2 ⟨[va],[],rfl,h,ma.2 rfl⟩⟩⟩)
theorem xf{w:World}{F:Nat->Prop}(p:bY):GR w F p.gv [.string (bs p.name),.string (bs p.value)]:=
 nN.2 (cd.2 ⟨[.string (bs p.name)],[.string (bs p.value)],rfl,eQ.2 rfl,cd.2 ⟨[.string (bs p.value)],[],rfl,eQ.2 rfl,ma.2 rfl⟩⟩)
theorem dV{w:World}{F:Nat->Prop}{l:List bY}{v:Value}(h:GR w F (.row 2 (l.map bY.gv)) [v]):
 ∃A c,v=.slice A l.length c/\l.length<=c/\c<=maxLen/\(l≠[]->∃b o,A=some ⟨b,o,none⟩/\F b/\
  ∀i (hi:i<l.length),w.cell? ⟨b,o+i*2,none⟩=some (.string (bs l[i].name))/\w.cell? ⟨b,o+i*2+1,none⟩=some (.string (bs l[i].value))):=by
 obtain⟨A,c,h1,h2,h3,h4⟩:=pK h (by omega);simp only[ah]at h1 h2 h4;refine⟨A,c,h1,h2,h3,fun db=>?_⟩;obtain⟨b,o,hA,hF,hc⟩:=h4 (by simpa using db);refine⟨b,o,hA,hF,fun i hi=>?_⟩;obtain⟨cs,g1,_,g3⟩:=hc i hi;simp only[List.getElem_map,bY.gv,GR,yf]at g1;obtain⟨a,d,rfl,rfl,a2,d2,rfl,rfl,rfl⟩:=g1;exact⟨g3 0 _ rfl,g3 1 _ rfl⟩
theorem iG{w:World}{F:Nat->Prop}{l:List bG}{v:Value}(h:GR w F (.row 3 (l.map bG.gv)) [v]):
 ∃A c,v=.slice A l.length c/\l.length<=c/\c<=maxLen/\(l≠[]->∃b o,A=some ⟨b,o,none⟩/\F b/\
  ∀i (hi:i<l.length),∃va,w.cell? ⟨b,o+i*3,none⟩=some (.int .i64 l[i].kind)/\w.cell? ⟨b,o+i*3+1,none⟩=some (.string (bs l[i].text))/\
   w.cell? ⟨b,o+i*3+2,none⟩=some va/\GR w F (.row 2 (l[i].bK.map bY.gv)) [va]):=by
 obtain⟨A,c,h1,h2,h3,h4⟩:=pK h (by omega);simp only[ah]at h1 h2 h4;refine⟨A,c,h1,h2,h3,fun db=>?_⟩;obtain⟨b,o,hA,hF,hc⟩:=h4 (by simpa using db);refine⟨b,o,hA,hF,fun i hi=>?_⟩;obtain⟨cs,g1,_,g3⟩:=hc i hi;simp only[List.getElem_map,bG.gv]at g1;obtain⟨va,rfl,vC⟩:=zN g1;exact⟨va,g3 0 _ rfl,g3 1 _ rfl,g3 2 _ rfl,vC⟩
def fM:Bt:=[60,101,115,105,58]
def ew:Bt:=[60,47,101,115,105,58]
def ox:Bt:=[60,33,45,45,101,115,105]
def tB:Bt:=[45,45,62]
def eS(b:Bool):Bt:=if b then tB else ox
def iH(l m:Bt):Bool:=l.take m.length==m.take l.length
def jS(b:Bool)(l:Bt):Option Bt:=
 if iH l fM then some fM else if iH l ew then some ew else if iH l (eS b)then some (eS b)else none
def bX(b:Bool):Bt->Bt × Nat
 |[]=>([],0)
 |c::l=>
  match(if c=60\/c=45 then jS b (c::l)else none)with
  |some m=>(m,0)
  |none=>((bX b l).1,(bX b l).2+1)
inductive eN (α:Type) where
 |ok (a:α) (r:Bt) (k:Nat)
 |short
 |bad (e:Int)
def eN.bind{α β:Type}(x:eN α)(f:α->Bt->Nat->eN β):eN β:=
 match x with
 |.ok a r k=>f a r k
 |.short=>.short
 |.bad e=>.bad e
def dy(r:Bt)(k:Nat):eN UInt8:=
 match r with
 |[]=>.short
 |c::_=>if 400<=k then .bad 2 else .ok c r k
def cZ:Bt->Bt->Nat->eN Unit
 |[],r,k=>.ok () r k
 |c::m,r,k=>(dy r k).bind fun x r k=>if x=c then cZ m r.tail (k+1)else .bad 40
def fg(p:UInt8->Bool):Bt->Nat->eN Bt
 |[],_=>.short
 |c::r,k=>if 400<=k then .bad 2 else if p c then(fg p r (k+1)).bind fun l r k=>.ok (c::l) r k else .ok [] (c::r) k
def ji(c:UInt8):Bool:=(97<=c&&c<=122)||c==45
def cV(c:UInt8):Bool:=c==32||c==9||c==10||c==13
def gY(c:UInt8):Bool:=c !=34&&c !=60&&c !=62
def eO(r:Bt)(k:Nat):eN Bt:=
 (fg ji r k).bind fun l r k=>if l=[]then .bad 40 else .ok l r k
def su(go:List bY->Bt->Nat->eN bG)(at_:List bY)(a:Bt)(r:Bt)(k:Nat):eN bG:=
 (cZ [34] r k).bind fun _ r k=>
 (fg gY r k).bind fun v r k=>
 (cZ [34] r k).bind fun _ r k=>go (at_++[⟨a,v⟩]) r k
def qx(go:List bY->Bt->Nat->eN bG)(at_:List bY)(a:Bt)(r:Bt)(k:Nat):eN bG:=
 if at_.any (fun x=>x.name==a)||decide (8<=at_.length)then .bad 41 else su go at_ a r k
def gO(go:List bY->Bt->Nat->eN bG)(nm:Bt)(at_:List bY)(wF:Bt)(c:UInt8)(r:Bt)(k:Nat):eN bG:=
 if c=62 then .ok ⟨1,nm,at_⟩ r.tail (k+1)
 else if c=47 then(cZ [62] r.tail (k+1)).bind fun _ r k=>.ok ⟨3,nm,at_⟩ r k
 else if wF=[]then .bad 40
 else(eO r k).bind fun a r k=>(cZ [61] r k).bind fun _ r k=>qx go at_ a r k
def dz:Nat->Bt->List bY->Bt->Nat->eN bG
 |0,_,_,_,_=>.short
 |n+1,nm,at_,r,k=>
  (fg cV r k).bind fun wF r k=>
  (dy r k).bind fun c r k=>gO (fun at_ r k=>dz n nm at_ r k) nm at_ wF c r k
def ml(m r:Bt)(k:Nat):eN bG:=
 (cZ m r k).bind fun _ r k=>
 (eO r k).bind fun nm r k=>
 if m=ew then
  (fg cV r k).bind fun _ r k=>
  (cZ [62] r k).bind fun _ r k=>.ok ⟨2,nm,[]⟩ r k
 else dz (r.length+1) nm [] r k
def fe(s m:Bt):bG × Nat × Int:=
 match ml m s 0 with
 |.ok t _ k=>(t,k,0)
 |.short=>(Py,0,0)
 |.bad e=>(Py,0,e)
structure gG where
 rest:Bt
 inside:Bool
 deriving DecidableEq
def jo(x:gG):Bool:=
 let m:=(bX x.inside x.rest).1
 let i:=(bX x.inside x.rest).2
 if x.rest=[]\/i≠0\/x.rest.length<m.length then decide (i=0)
 else decide (m=fM\/m=ew)&&decide ((fe x.rest m).2.1=0)&&decide ((fe x.rest m).2.2=0)
def bS(l:Bt):bG:=⟨0,l,[]⟩
def cC:Nat->Bool->Bt->List bG->gG × List bG × Int
 |0,_,_,_=>(⟨[],false⟩,[],0)
 |n+1,b,s,out=>
  let m:=(bX b s).1
  let i:=(bX b s).2
  let out:=if 0<i then out++[bS (s.take i)]else out
  let s:=s.drop i
  if s.length<m.length\/m=[]then(⟨s,b⟩,out,0)
  else if m=ox\/m=tB then cC n (decide (m=ox)) (s.drop m.length) out
  else
   let c:=fe s m
   if c.2.2≠0 then(⟨[],false⟩,[],c.2.2)
   else if c.2.1=0 then(⟨s,b⟩,out,0)
   else cC n b (s.drop c.2.1) (out++[c.1])
def dC(x:gG)(s:Bt):gG × List bG × Int:=
 if jo x then cC ((x.rest++s).length+1) x.inside (x.rest++s) []else(⟨[],false⟩,[],1)
def ig(x:gG):List bG × Int:=
 if jo x then
  if fM.isPrefixOf x.rest||ew.isPrefixOf x.rest then([],40)
  else if x.rest=[]then([],0)else([bS x.rest],0)
 else([],1)
def bV(out:List bG)(t:bG):List bG:=
 if t.kind≠0 then out++[t]
 else if t.text=[]then out
 else match out.getLast? with
  |some u=>if u.kind=0 then out.dropLast++[{u with text:=u.text++t.text}]else out++[t]
  |none=>out++[t]
def eV(l:List bG):List bG:=l.foldl bV []
def gH(s:Bt):List bG × Int:=
 let f:=dC ⟨[],false⟩ s
 if f.2.2≠0 then([],f.2.2)
 else
  let g:=ig f.1
  if g.2≠0 then([],g.2)else(eV (f.2.1++g.1),0)
def Rd(w:World)(b:Nat)(s:ByteArray)(k:Nat):Prop:=
 w.cell? ⟨b,0,none⟩=some (.string s)/\w.cell? ⟨b,1,none⟩=some (.int .i64 k)/\w.frozen? ⟨b,1,none⟩=false
def CK:Value:=.iface 179 (.agg #[])
def Qx(e:Int):Value:=.iface 29 (.int .i64 e)
def raised(v:Value):Ending:=.panicked [{v:=v,recovered:=false}]
theorem Ke(b:Bool)(w:World):
 Calls prog 119 #[.bool b] w fun e w'=>e=.returned (.slice (some ⟨w.heap.size,0,none⟩) 3 3)/\
  w.alloc (.cells #[.string (bs fM),.string (bs ew),.string (bs (eS b))] 9)=w':=by
 cases b
 ·go_enter func119,ntmps119;go_wp2;go_ret;exact⟨rfl,rfl⟩
 ·go_enter func119,ntmps119;go_wp2;go_ret;exact⟨rfl,rfl⟩
theorem yh(s:ByteArray)(k b:Nat)(w:World)(h:Rd w b s k)(hi:k<s.size)(h4:k<400)(_hs:s.size<=10000000):
 Calls prog 157 #[.pointer (some ⟨b,0,none⟩)] w fun e w'=>e=.returned (.int .u8 s[k].toNat)/\∃n,w'=w.drewN n:=by
 obtain⟨h0,h1,h2⟩:=h;go_enter func157,ntmps157;go_wp2;go_quiet (fail);go_wp2;go_quiet (fail);go_wp2;go_ret;exact⟨rfl,_,World.drewN_drewN _ _ _⟩
theorem xg(s:ByteArray)(k b:Nat)(w:World)(h:Rd w b s k)(hi:s.size<=k)(_hs:s.size<=10000000)(_hk:k<=10000000):
 Calls prog 157 #[.pointer (some ⟨b,0,none⟩)] w fun e w'=>e=raised CK/\∃n,w'=w.drewN n:=by
 obtain⟨h0,h1,h2⟩:=h;go_enter func157,ntmps157;go_wp2;go_quiet (fail);go_wp2;exact⟨rfl,rfl,_,rfl⟩
theorem zO(s:ByteArray)(k b:Nat)(w:World)(h:Rd w b s k)(hi:k<s.size)(h4:400<=k)(_hs:s.size<=10000000):
 Calls prog 157 #[.pointer (some ⟨b,0,none⟩)] w fun e w'=>e=raised (Qx 2)/\∃n,w'=w.drewN n:=by
 obtain⟨h0,h1,h2⟩:=h;go_enter func157,ntmps157;go_wp2;go_quiet (fail);go_wp2;exact⟨rfl,rfl,_,rfl⟩
theorem Ih(c:UInt8)(w:World):Calls prog 181 #[.int .u8 c.toNat] w fun e w'=>e=.returned (.bool (ji c))/\w=w':=by
 go_enter func181,ntmps181;go_wp2
 all_goals
  go_ret;refine⟨cH ?_,rfl⟩;simp only[ji,sq,XU,UInt8.reduceToNat]
  first|rfl|(simp[*];done)|(simp[*];omega)
theorem Kf(c:UInt8)(w:World):Calls prog 156 #[.int .u8 c.toNat] w fun e w'=>e=.returned (.bool (cV c))/\w=w':=by
 go_enter func156,ntmps156;go_wp2
 all_goals
  go_ret;refine⟨cH ?_,rfl⟩;simp only[cV,sq,UInt8.reduceToNat]
  first|rfl|(simp[*];done)
theorem Kg(c:UInt8)(w:World):Calls prog 159 #[.int .u8 c.toNat] w fun e w'=>e=.returned (.bool (gY c))/\w=w':=by
 go_enter func159,ntmps159;go_wp2
 all_goals
  go_ret;refine⟨cH ?_,rfl⟩;simp only[gY,Zg,UInt8.reduceToNat]
  first|rfl|(simp[*];done)
def CL{α:Type}(b:Nat)(s:ByteArray)(w:World)(o:eN α)(val:α->Value)(e:Ending)(w':World):Prop:=
 w.grownBy w' (some b)/\match o with
  |.ok a r k=>e=.returned (val a)/\r=(L s).drop k/\k<=s.size/\Rd w' b s k
  |.short=>e=raised CK
  |.bad n=>e=raised (Qx n)
theorem Rd.drewN{w:World}{b:Nat}{s:ByteArray}{k:Nat}(h:Rd w b s k)(n:Nat):Rd (w.drewN n) b s k:=h
theorem Rd.below{w w':World}{b:Nat}{s:ByteArray}{k:Nat}(h:Rd w b s k)(hb:Below w.heap.size w w'):Rd w' b s k:=by
 have hl:b<w.heap.size:=aq w _ h.1;exact⟨(hb.cell hl).trans h.1,(hb.cell hl).trans h.2.1,(hb.frozen hl).trans h.2.2⟩
theorem Rd.grown{w w':World}{b:Nat}{s:ByteArray}{k:Nat}{row:Option Nat}(h:Rd w b s k)(hb:w.grownBy w' row)(hr:some b≠row):Rd w' b s k:=by
 have hl:b<w.heap.size:=aq w _ h.1;have e:=hb.block b hl hr;exact⟨(aW (w:=w) (a:=⟨b,0,none⟩) e).trans h.1,(aW (w:=w) (a:=⟨b,1,none⟩) e).trans h.2.1,(World.frozen?_of_block (w:=w) (a:=⟨b,1,none⟩) e).trans h.2.2⟩
theorem Rd.step{w:World}{b:Nat}{s:ByteArray}{k:Nat}(h:Rd w b s k)(k':Nat):Rd (w.setCell ⟨b,1,none⟩ (.int .i64 k')) b s k':=by
 obtain⟨h0,h1,h2⟩:=h;refine⟨?_,?_,?_⟩
 ·rw[World.cell?_setCell_other _ _ _ _ (by simp)];exact h0
 ·exact World.cell?_setCell_same w ⟨b,1,none⟩ (.int .i64 k') h1
 ·rw[World.frozen?_setCell];exact h2
theorem fB{l:Bt}{k:Nat}(h:k<l.length):l.drop k=l[k]::l.drop (k+1):=aE h
theorem oy{s:ByteArray}{k:Nat}(h:s.size<=k):dy ((L s).drop k) k=.short:=by
 rw[List.drop_of_length_le (by rw[<-cm];exact h)];rfl
theorem pL{s:ByteArray}{k:Nat}(h:k<s.size)(h4:400<=k):dy ((L s).drop k) k=.bad 2:=by
 rw[fB (by rw[<-cm];exact h)];simp[dy,h4]
theorem rA{s:ByteArray}{k:Nat}(h:k<s.size)(h4:k<400):dy ((L s).drop k) k=.ok s[k] ((L s).drop k) k:=by
 rw[fB (by rw[<-cm];exact h)];simp[dy,Nat.not_le.2 h4];rfl
theorem nO(s m:ByteArray)(b k:Nat)(w:World)(h:Rd w b s k)(hk:k<=s.size)(hs:s.size<=10000000)(hm:m.size<=100):
 Calls prog 153 #[.pointer (some ⟨b,0,none⟩),.string m] w (CL b s w (cZ (L m) ((L s).drop k) k) (fun _=>.tuple #[])):=by
 generalize hF:cZ (L m) ((L s).drop k) k=F;have HF:=bD hF;clear hF;go_enter func153,ntmps153;go_wp2;go_loopw [4,7] (fun _ i wr=>∃j k':Nat,j<=m.size/\i=.int .i64 j/\Rd wr b s k'/\k'<=s.size/\w.grownBy wr (some b)/\Hy (F=cZ ((L m).drop j) ((L s).drop k') k'))
  (fun _ i wr=>m.size-(intOf i).toNat)
 case atStart=>exact⟨0,k,ax _,rfl,h,hk,World.grownBy.refl w _,HF.o.symm⟩
 case round=>
  obtain⟨j,k',hj,rfl,hr,hk',hg,EW⟩:=hrel;by_cases bW:j<m.size
  ·have HE:Hy ((L m).drop j=m[j]::(L m).drop (j+1)):=fB (by rw[<-cm];exact bW);have hj0:(0:Int)<=(j:Int):=by omega
   have hj1:(j:Int)<(m.size:Int):=by omega
   rcases Nat.lt_or_ge k' s.size with nG|nG
   ·rcases Nat.lt_or_ge k' 400 with h4|h4
    ·have HP:Hy (dy ((L s).drop k') k'=.ok s[k'] ((L s).drop k') k'):=rA nG h4;have JZ:=hr;obtain⟨c0,c1,c2⟩:=JZ;by_cases hc:s[k']=m[j]
     ·have dG:((s[k'].toNat:Int)!=(m[j].toNat:Int))=false:=by rw[hc];simp
      have HC:=bD hc;clear hc;go_wp2_with fail;refine wp_region_any (by kernel_rfl) ?_;refine xe 0 ?_;refine xe 2 ?_;refine xe 3 ?_;refine xe 4 ?_;refine wpAny_ready (rs:=[1]) (by kernel_rfl) (by simp) ?_;refine AllReady.cons rfl (fun K_ bP=>?_) AllReady.nil;go_simp;refine(yh s k' b _ (hr.drewN _) nG h4 hs).mono ?_;rintro e w' ⟨rfl,n,rfl⟩;refine bP _ _ ?_;clear bP K_;refine wpAny_ready (rs:=[5]) (by kernel_rfl) (by simp) ?_;refine AllReady.cons rfl (fun K_ bP=>?_) AllReady.nil;go_simp;refine bP _ _ ?_;clear bP K_;refine wpAny_done (by kernel_rfl) ?_ _;go_wp2_with fail;go_roundw
      case rel=>exact⟨j+1,k'+1,by omega,by go_num,Rd.step (Rd.drewN hr _) _,by omega,bF (dF hg _) (.inl rfl) _,by
       refine EW.o.trans ?_;rw[HE.o,cZ,HP.o];simp only[eN.bind,HC.o,if_true,List.tail_drop]⟩
      case measure=>simp[intOf];omega
     ·have dG:((s[k'].toNat:Int)!=(m[j].toNat:Int))=true:=by rw[aQ];exact fun e=>hc ((mQ _ _).2 e)
      have HC:=bD hc;clear hc;go_wp2_with fail;refine wp_region_any (by kernel_rfl) ?_;refine xe 0 ?_;refine xe 2 ?_;refine xe 3 ?_;refine xe 4 ?_;refine wpAny_ready (rs:=[1]) (by kernel_rfl) (by simp) ?_;refine AllReady.cons rfl (fun K_ bP=>?_) AllReady.nil;go_simp;refine(yh s k' b _ (hr.drewN _) nG h4 hs).mono ?_;rintro e w' ⟨rfl,n,rfl⟩;refine bP _ _ ?_;clear bP K_;refine wpAny_ready (rs:=[5]) (by kernel_rfl) (by simp) ?_;refine AllReady.cons rfl (fun K_ bP=>?_) AllReady.nil;go_simp;refine bP _ _ ?_;clear bP K_;refine wpAny_done (by kernel_rfl) ?_ _;go_wp2_with fail;exact⟨rfl,dF hg _,by rw[EW.o,HE.o,cZ,HP.o];simp only[eN.bind,aa HC.o];rfl⟩
    ·have HP:Hy (dy ((L s).drop k') k'=.bad 2):=pL nG h4;go_wp2_with fail;refine wp_region_any (by kernel_rfl) ?_;refine xe 0 ?_;refine xe 2 ?_;refine xe 3 ?_;refine xe 4 ?_;refine wpAny_ready (rs:=[1]) (by kernel_rfl) (by simp) ?_;refine AllReady.cons rfl (fun K_ bP=>?_) AllReady.nil;go_simp;refine(zO s k' b _ (hr.drewN _) nG h4 hs).mono ?_;rintro e w' ⟨rfl,n,rfl⟩;exact⟨rfl,dF (dF hg _) _,by rw[EW.o,HE.o,cZ,HP.o];rfl⟩
   ·have HP:Hy (dy ((L s).drop k') k'=.short):=oy nG;go_wp2_with fail;refine wp_region_any (by kernel_rfl) ?_;refine xe 0 ?_;refine xe 2 ?_;refine xe 3 ?_;refine xe 4 ?_;refine wpAny_ready (rs:=[1]) (by kernel_rfl) (by simp) ?_;refine AllReady.cons rfl (fun K_ bP=>?_) AllReady.nil;go_simp;refine(xg s k' b _ (hr.drewN _) nG hs (by omega)).mono ?_;rintro e w' ⟨rfl,n,rfl⟩;exact⟨rfl,dF (dF hg _) _,by rw[EW.o,HE.o,cZ,HP.o];rfl⟩
  ·have HE:Hy ((L m).drop j=[]):=List.drop_of_length_le (by rw[<-cm];omega);go_wp2_with fail;go_end0;exact⟨hg,by rw[EW.o,HE.o];exact⟨rfl,rfl,hk',hr⟩⟩
structure Ii(f:Nat)(p:UInt8->Bool):Prop where
 enters:∀(args:Array Value) (w:World),(callFunc f args).run prog w=.ok (.enter f args) w
 calls:∀(c:UInt8) (w:World),Calls prog f #[.int .u8 c.toNat] w fun e w'=>e=.returned (.bool (p c))/\w=w'
theorem Qy:Ii 181 ji:=⟨fun _ _=>by kernel_rfl,Ih⟩
theorem Kh:Ii 156 cV:=⟨fun _ _=>by kernel_rfl,Kf⟩
theorem Ta:Ii 159 gY:=⟨fun _ _=>by kernel_rfl,Kg⟩
def iY(p:UInt8->Bool):Bt->Nat->eN Unit
 |[],_=>.short
 |c::r,k=>if 400<=k then .bad 2 else if p c then iY p r (k+1)else .ok () (c::r) k
theorem vD(p:UInt8->Bool):∀(r:Bt) (k:Nat),fg p r k=(iY p r k).bind fun _ r' k'=>.ok (r.take (k'-k)) r' k'
 |[],k=>rfl
 |c::r,k=>by
  have key:∀(r:Bt) (k:Nat),∀r' k',iY p r k=.ok () r' k'->k<=k':=by
   intro r;induction r with
   |nil=>intro k r' k' h;simp[iY]at h
   |cons c r ih=>
    intro k r' k' h;simp only[iY]at h;split at h
    ·cases h
    ·split at h
     ·have:=ih _ _ _ h;omega
     ·injection h with _ _ h;omega
  simp only[fg,iY];split
  ·rfl
  ·split
   ·rw[vD p r (k+1)];cases h:iY p r (k+1)with
    |ok a r' k'=>
     have:=key _ _ _ _ h;simp only[eN.bind];rw[show k'-k=(k'-(k+1))+1 by omega,List.take_succ_cons]
    |short=>rfl
    |bad e=>rfl
   ·simp[eN.bind]
theorem Ba{p:UInt8->Bool}{s:ByteArray}{k:Nat}(h:s.size<=k):iY p ((L s).drop k) k=.short:=by
 rw[List.drop_of_length_le (by rw[<-cm];exact h)];rfl
theorem CM{p:UInt8->Bool}{s:ByteArray}{k:Nat}(h:k<s.size)(h4:400<=k):iY p ((L s).drop k) k=.bad 2:=by
 rw[fB (by rw[<-cm];exact h)];simp[iY,h4]
theorem CN{p:UInt8->Bool}{s:ByteArray}{k:Nat}(h:k<s.size)(h4:k<400)(hp:p s[k]=false):iY p ((L s).drop k) k=.ok () ((L s).drop k) k:=by
 have e:=fB (l:=L s) (k:=k) (by rw[<-cm];exact h);rw[e,iY,aa (by omega),aa (by rw[<-dP s k h,hp];simp)]
theorem Ki{p:UInt8->Bool}{s:ByteArray}{k:Nat}(h:k<s.size)(h4:k<400)(hp:p s[k]=true):
 iY p ((L s).drop k) k=iY p ((L s).drop (k+1)) (k+1):=by
 have e:=fB (l:=L s) (k:=k) (by rw[<-cm];exact h);rw[e,iY,aa (by omega),ae (by rw[<-dP s k h,hp])]
theorem vE(f:Nat)(p:UInt8->Bool)(hp:Ii f p)(s:ByteArray)(b k:Nat)(w:World)(h:Rd w b s k)(hk:k<=s.size)(hs:s.size<=10000000):
 Calls prog 155 #[.pointer (some ⟨b,0,none⟩),.func (.func f) #[] #[]] w (CL b s w (fg p ((L s).drop k) k) (fun l=>.string (bs l))):=by
 have hen:=hp.enters;have HP0:=bD hp;clear hp;generalize hF:iY p ((L s).drop k) k=F;have HF:=bD hF;clear hF;obtain⟨c0,c1,c2⟩:=id h;go_enter func155,ntmps155;go_wp2_with fail;clear c0 c1 c2;go_loopw [] (fun wr=>∃k':Nat,k<=k'/\Rd wr b s k'/\k'<=s.size/\w.grownBy wr (some b)/\Hy (F=iY p ((L s).drop k') k'))
  (fun wr=>s.size-(intOf ((wr.cell? ⟨b,1,none⟩).getD undef)).toNat)
 case atStart=>exact⟨k,dv _,h,hk,World.grownBy.refl w _,HF.o.symm⟩
 case round=>
  obtain⟨k',B4,hr,hk',hg,EW⟩:=hrel;obtain⟨c0,c1,c2⟩:=id hr;rcases Nat.lt_or_ge k' s.size with nG|nG
  ·rcases Nat.lt_or_ge k' 400 with h4|h4
   ·cases hpc:p s[k']with
    |true=>
     have HC:=bD hpc;clear hpc;go_wp2_with fail;refine(yh s k' b _ hr nG h4 hs).mono ?_;rintro e w' ⟨rfl,n,rfl⟩;go_wp2_with fail;refine(HP0.o.calls _ _).mono ?_;rintro e w' ⟨rfl,rfl⟩;have hpt:p s[k']=true:=HC.o;go_wp2_with fail;go_roundw
     case rel=>exact⟨k'+1,by omega,Rd.step (Rd.drewN hr _) _,by omega,bF (dF hg _) (.inl rfl) _,by
      refine EW.o.trans ?_;exact Ki nG h4 HC.o⟩
     case measure=>
      have e1:=(Rd.step (Rd.drewN hr n) (k'+1)).2.1;simp only[Int.natCast_add,Int.natCast_one]at e1;rw[c1];simp[intOf,e1];omega
    |false=>
     have HC:=bD hpc;clear hpc;go_wp2_with fail;refine(yh s k' b _ hr nG h4 hs).mono ?_;rintro e w' ⟨rfl,n,rfl⟩;go_wp2_with fail;refine(HP0.o.calls _ _).mono ?_;rintro e w' ⟨rfl,rfl⟩;have hpt:p s[k']=false:=HC.o;go_wp2_with fail;go_quiet (fail);go_wp2_with fail;go_ret;refine⟨dF (dF hg _) _,?_⟩;rw[vD,HF.o,EW.o,CN nG h4 HC.o];exact⟨Zh (congrArg Value.string (tZ (by rw[dX,eB,List.drop_take]))),rfl,hk',hr⟩
   ·go_wp2_with fail;refine(zO s k' b _ hr nG h4 hs).mono ?_;rintro e w' ⟨rfl,n,rfl⟩;exact⟨rfl,dF hg _,by rw[vD,HF.o,EW.o,CM nG h4];rfl⟩
  ·go_wp2_with fail;refine(xg s k' b _ hr nG hs (by omega)).mono ?_;rintro e w' ⟨rfl,n,rfl⟩;exact⟨rfl,dF hg _,by rw[vD,HF.o,EW.o,Ba nG];rfl⟩
theorem CO(s:ByteArray)(b k:Nat)(w:World)(h:Rd w b s k)(hk:k<=s.size)(hs:s.size<=10000000):
 Calls prog 154 #[.pointer (some ⟨b,0,none⟩)] w (CL b s w (eO ((L s).drop k) k) (fun l=>.string (bs l))):=by
 have hc:=vE _ _ Qy s b k w h hk hs;cases hF:fg ji ((L s).drop k) k with
 |ok l r k'=>
  rw[hF]at hc;have HC:=bD hc;have HF:=bD hF;clear hc hF;go_enter func154,ntmps154;go_wp2_with fail;refine HC.o.mono ?_;rintro e w' ⟨hg,rfl,hr,fA,JZ⟩;have HR:=bD hr;clear hr;go_wp2_with fail
  ·refine⟨rfl,hg,?_⟩;have e:l=[]:=by
    have:(bs l).toList.isEmpty=true:=by assumption
    simpa[bQ]using this
   rw[eO,HF.o];simp[eN.bind,e,raised,Qx]
  ·go_ret;refine⟨hg,?_⟩;have e:l≠[]:=by
    have:(bs l).toList.isEmpty=false:=by assumption
    simpa[bQ]using this
   rw[eO,HF.o];simp only[eN.bind,aa e];exact⟨rfl,HR.o,fA,JZ⟩
 |short=>
  rw[hF]at hc;have HC:=bD hc;have HF:=bD hF;clear hc hF;go_enter func154,ntmps154;go_wp2_with fail;refine HC.o.mono ?_;rintro e w' ⟨hg,rfl⟩;exact⟨rfl,hg,by rw[eO,HF.o];rfl⟩
 |bad n=>
  rw[hF]at hc;have HC:=bD hc;have HF:=bD hF;clear hc hF;go_enter func154,ntmps154;go_wp2_with fail;refine HC.o.mono ?_;rintro e w' ⟨hg,rfl⟩;exact⟨rfl,hg,by rw[eO,HF.o];rfl⟩
theorem Kj{s:ByteArray}{k:Nat}:(dy ((L s).drop k) k=.short/\s.size<=k)\/(dy ((L s).drop k) k=.bad 2/\k<s.size/\400<=k)\/
 ∃h:k<s.size,dy ((L s).drop k) k=.ok s[k] ((L s).drop k) k/\k<400:=by
 rcases Nat.lt_or_ge k s.size with h|h
 ·rcases Nat.lt_or_ge k 400 with h4|h4
  ·exact .inr (.inr ⟨h,rA h h4,h4⟩)
  ·exact .inr (.inl ⟨pL h h4,h,h4⟩)
 ·exact .inl ⟨oy h,h⟩
def Kk{α:Type}(o:eN α)(x:Value):Prop:=(o=.short/\x=CK)\/∃n,o=.bad n/\x=Qx n
theorem gZ{α β:Type}{o:eN α}{f:α->Bt->Nat->eN β}{x:Value}(h:Kk o x):Kk (o.bind f) x:=by
 rcases h with⟨rfl,rfl⟩|⟨n,rfl,rfl⟩
 ·exact .inl ⟨rfl,rfl⟩
 ·exact .inr ⟨n,rfl,rfl⟩
theorem CL.cases{α:Type}{b:Nat}{s:ByteArray}{w w':World}{o:eN α}{val:α->Value}{e:Ending}(h:CL b s w o val e w'):
 w.grownBy w' (some b)/\((∃x,e=raised x/\Hy (Kk o x))\/∃a r k,Hy (o=.ok a r k)/\e=.returned (val a)/\Hy (r=(L s).drop k)/\k<=s.size/\Rd w' b s k):=by
 obtain⟨hg,h⟩:=h;refine⟨hg,?_⟩;cases o with
 |ok a r k=>exact .inr ⟨a,r,k,rfl,h.1,h.2.1,h.2.2.1,h.2.2.2⟩
 |short=>exact .inl ⟨_,h,.inl ⟨rfl,rfl⟩⟩
 |bad n=>exact .inl ⟨_,h,.inr ⟨n,rfl,rfl⟩⟩
theorem Ng(s:ByteArray)(k b:Nat)(w:World)(h:Rd w b s k)(hk:k<=s.size)(hs:s.size<=10000000):
 Calls prog 157 #[.pointer (some ⟨b,0,none⟩)] w fun e w'=>(∃n,w'=w.drewN n)/\
  ((∃x,e=raised x/\Hy (Kk (dy ((L s).drop k) k) x))\/∃c,Hy (dy ((L s).drop k) k=.ok c ((L s).drop k) k)/\e=.returned (.int .u8 c.toNat)/\k<s.size):=by
 rcases Kj (s:=s) (k:=k)with⟨e,h1⟩|⟨e,h1,h2⟩|⟨h1,e,h2⟩
 ·exact(xg s k b w h h1 hs (by omega)).mono fun _ _ ⟨a,n,b⟩=>⟨⟨n,b⟩,.inl ⟨_,a,.inl ⟨e,rfl⟩⟩⟩
 ·exact(zO s k b w h h1 h2 hs).mono fun _ _ ⟨a,n,b⟩=>⟨⟨n,b⟩,.inl ⟨_,a,.inr ⟨2,e,rfl⟩⟩⟩
 ·exact(yh s k b w h h1 h2 hs).mono fun _ _ ⟨a,n,b⟩=>⟨⟨n,b⟩,.inr ⟨_,e,a,h1⟩⟩
end Go.Proofs.YtejafaaihodehaaGreatDoor
