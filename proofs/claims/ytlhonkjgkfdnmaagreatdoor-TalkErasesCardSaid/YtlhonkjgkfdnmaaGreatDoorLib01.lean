import Derived.Test.YtlhonkjgkfdnmaaGreatDoorLib00
set_option linter.all false
namespace Hud
open Go
def aHi:N_->V_|[]=>[]|e::a=>iZ e++aHi a
def PS:List (Nat×AV)->V_|[]=>[]|(_,x)::r=>gF x++PS r
def aJi:Option AObj->V_|some (.box c)=>iZ c|some (.arf _ b)=>aHi b|some (.lp _ s)=>PS s|some (.mit (some j) _ _ _)=>[j]|some (.map _ _ a _ _)=>iZ a|_=>[]
def IC:V_->V_->V_|L,[]=>L|L,i::r=>if L.contains i then IC L r else IC (L++[i]) r
def aC3(T:aK):V_->V_|[]=>[]|i::r=>aJi (cR T i)++aC3 T r
def Ee(T:aK):aK->V_->V_|[],L=>L|_::R,L=>Ee T R (IC L (aC3 T L))
def Bc(T:aK)(ids:V_):V_:=Ee T T (IC [] ids)
def TO(L:V_)(i:Nat):Option Nat:=L.idxOf? i
mutual
def Bd(L:V_):AV->AV
 |.own i=>match TO L i with|some j=>.own j|none=>.any
 |.ptr i o=>match TO L i with|some j=>.ptr j o|none=>.any
 |.elt i k j o=>match TO L i with|some m=>.elt m k j o|none=>.any
 |.vw i k j o=>match TO L i with|some m=>.vw m k j o|none=>.any
 |.mp i=>match TO L i with|some m=>.mp m|none=>.any
 |.yl i=>match TO L i with|some m=>.yl m|none=>.any
 |.bm f k a=>.bm f k (xF L a)|.ag a=>.ag (xF L a)|.cl f a=>.cl f (xF L a)|.tup a=>.tup (xF L a)|x=>x
def xF(L:V_):O_->O_|[]=>[]|c::a=>Bd L c::xF L a
end
def Td(L:V_):List (Nat×AV)->List (Nat×AV)|[]=>[]|(i,x)::r=>(i,Bd L x)::Td L r
def XQ(L:V_):N_->N_|[]=>[]|e::a=>xF L e::XQ L a
def YQ(L:V_):AObj->Option AObj
 |.box g=>some (.box (xF L g))|.arf k d=>if(XQ L d).all (·.all gS) then some (.arf k (XQ L d)) else none|.lp r s=>some (.lp r (Td L s))|.mit none a b c=>some (.mit none a b c)|.mit (some j) a b c=>match TO L j with|some m=>some (.mit (some m) a b c)|none=>none
 |.arr k d=>some (.arr k d)|.map i f e bs h=>some (.map i f (xF L e) bs h)
def GX(L:V_)(T:aK):aK:=L.map λi=>(cR T i).bind (YQ L)
def LG(p:Nat×AV):List (Nat×AV)->List (Nat×AV)|[]=>[p]|q::r=>if p.1<q.1 then p::q::r else q::LG p r
def sA:List (Nat×AV)->List (Nat×AV)|[]=>[]|p::r=>LG p (sA r)
def mV(d:V_):List (Nat×AV)->List (Nat×AV)|[]=>[]|(i,x)::r=>if d.contains i then mV d r else(i,x)::mV d r
def DB(d:V_)(st:St):St :=
 let s:=sA (mV d st.s)
 let L:=Bc st.T (List.range st.r++PS s)
 ⟨st.r,Td L s,GX L st.T⟩
def bk(L:V_)(n:Nat)(j:Nat):Nat:=if j<L.length then L.getD j 0 else n+(j-L.length)
mutual
def AR(L:V_)(n:Nat):AV->AV|.own i=>.own (bk L n i)|.ptr i o=>.ptr (bk L n i) o|.elt i k j o=>.elt (bk L n i) k j o|.vw i k j o=>.vw (bk L n i) k j o|.mp i=>.mp (bk L n i)|.yl i=>.yl (bk L n i)|.bm f k a=>.bm f k (EJ L n a)|.ag a=>.ag (EJ L n a)|.cl f a=>.cl f (EJ L n a)|.tup a=>.tup (EJ L n a)|x=>x
def EJ(L:V_)(n:Nat):O_->O_|[]=>[]|c::a=>AR L n c::EJ L n a
end
def bkS(L:V_)(n:Nat):List (Nat×AV)->List (Nat×AV)|[]=>[]|(i,x)::r=>(i,AR L n x)::bkS L n r
def bkF(L:V_)(n:Nat):N_->N_|[]=>[]|e::a=>EJ L n e::bkF L n a
def DC(L:V_)(n:Nat):Option AObj->Option AObj|some (.box g)=>some (.box (EJ L n g))|some (.arf k d)=>some (.arf k (bkF L n d))|some (.lp r s)=>some (.lp r (bkS L n s))|some (.mit none a b c)=>some (.mit none a b c)|some (.mit (some j) a b c)=>some (.mit (some (bk L n j)) a b c)|some (.arr k d)=>some (.arr k d)|some (.map i f e bs h)=>some (.map i f (EJ L n e) bs h)|none=>none
def IF(L:V_)(n:Nat):aK->V_->aK->aK|T,_,[]=>T|T,[],a=>T++a.map (DC L n)|T,i::b,o::a=>IF L n (T.set i (DC L n o)) b a
mutual
def tB(T:aK):AV->AV
 |.own i=>match cR T i with|some (.arr k a)=>.ls k a|_=>.any
 |.vw i k lo m=>match cR T i with|some (.arr b a)=>if k=b/\lo+m<=a.length then .ls k ((a.drop lo).take m) else .any|_=>.any
 |.ag c=>.ag (xG T c)|x=>x
def xG(T:aK):O_->O_|[]=>[]|c::a=>tB T c::xG T a
end
mutual
def fX:AV->Prop|.ls _ b=>b=[]|.rp a=>a=[]|.ag a=>tC a|.cl _ a=>tC a|.bm _ _ a=>tC a|.tup a=>tC a|_=>True
def tC:O_->Prop|[]=>True|c::a=>fX c/\tC a
end
def xH:Option AObj->Prop|some (.box d)=>tC d|some (.map _ _ b _ _)=>tC b|some (.arr _ a)=>∀e∈a,∀c∈e,∃x,c=.v x|some (.arf _ a)=>∀e∈a,tC e|some (.lp _ s)=>∀p∈s,fX p.2|some (.mit _ _ _ _)=>True|none=>True
mutual
def tV:AV->AV->Prop|.ag b,y=>y=.ag b\/∃ds,y=.ag ds/\EK b ds|.v u,y=>y=.v u\/(u=.slice none 0 0/\∃k,y=.ls k [])\/(∃a,u=.agg a/\y=.ag (a.toList.map .v))|x,y=>y=x
def EK:O_->O_->Prop|[],y=>y=[]|c::a,y=>∃d ds,y=d::ds/\tV c d/\EK a ds
end
def aC4(P:Program)(G:L_)(f:FuncId)(args:O_)(T:aK)(K:AV->aK->Prop):Prop :=
 (∃L:V_,L.Nodup/\(∀i∈L,i<T.length)/\aA P G f (xF L args) (GX L T) λr a=>K (AR L T.length r) (IF L T.length T L a)) \/
 (iZ (xG T args)=[]/\aA P G f (xG T args) [] λr a=>fX r/\(∀o∈a,xH o)/\K (AR [] T.length r) (T++a.map (DC [] T.length))) \/
 aA P G f args T K
def IG(P:Program)(G:L_)(f:FuncId)(args:O_)(T:aK)(K:AV->aK->Prop):Prop :=
 ∃a,EK args a/\aC4 P G f a T K
def QT (st:St) (j:Nat) (c:Option Nat) (k:Nat):St :=
 match c with
 |none=>match bA st.s j with|.v (.slice none 0 0)=>⟨st.r,GW st.s j (.own st.T.length),st.T++[some (.arr k [])]⟩|_=>st
 | some c=>match bA st.s j with
  | .ptr i _=>match cR st.T i with
   |some (.box a)=>match a[c]? with|some (.v (.slice none 0 0))=>⟨st.r,st.s,(st.T++[some (AObj.arr k [])]).set i (some (.box (a.set c (.own st.T.length))))⟩|_=>st
   |_=>st
  |_=>st
def shutI(st:St)(i:Nat):St:=match cR st.T i with|some (.arr k a)=>⟨st.r,QR i k a st.s,(QS i k a st.T).set i none⟩|_=>st
def Ef(st:St):V_->St|[]=>st|i::r=>Ef (shutI st i) r
def Rk(st:St)(j:Nat):St:=Ef st (gF (bA st.s j))
def Te(kd:Nat)(x:AV):Bool:=match kd,x with|1,.ls _ []=>true|_,_=>false
def fnA:AV->AV|.v (.func (.func g) a b)=>if a.size=0/\b.size=0 then .cl g [] else .v (.func (.func g) a b)|x=>x
def yF (P:Program) (G:L_) (st:St) (o:HOp) (K:AV->aK->Prop):Prop :=
 match o with
 |.call f c=>match fnA (dW G st.s f) with|.cl g d=>IG P G g (c.map (dW G st.s)++d) st.T K|.bm g k l=>IG P G g (l.take k++c.map (dW G st.s)++l.drop k) st.T K|.yl i=>DA P G i (c.map (dW G st.s)) st.T K|_=>False
 | .nxt p=>match dW G st.s p with
  | .ptr i 0=>match cR st.T i with
   |some (.mit none _ _ _)=>K (.v (.tuple #[.bool false])) st.T|some (.mit (some j) a aAD n)=>match cR st.T j with
    | some (.map r q m bs cl)=>a<=n/\(∀b∈bs,b<a)/\((∀b∈bs,b∈aAD)->K (.v (.tuple #[.bool false])) st.T) /\
      ∀(e:Nat)(k:C_)(v:AV)(b:Nat),q[e]?=some k->m[e]?=some v->bs[e]?=some b->b∉aAD ->
       K (.tup [.v (.bool true),.v (iY r k),v]) (st.T.set i (some (.mit (some j) a (aAD++[b]) cl)))
    |_=>False
   |_=>False
  |_=>False
 |.nilS h kd x=>if Te kd (dW G st.s x)=true then K (.v (.bool true)) st.T/\K (.v (.bool false)) st.T else match cE st.T (dW G st.s) (.nilS h kd x) with|some (y,T)=>K y T|none=>False
 |o=>match cE st.T (dW G st.s) o with|some (x,T)=>K x T|none=>False
def fY(s:List (Nat×AV)):Option (Nat×Bool)->Option Bool|none=>some true|some (j,b)=>match bA s j with|.v (.bool t)=>some (t==b)|.v (.tuple _)=>some false|_=>none
def Mp(P:Program)(G:L_):List HOper->St->(St->Prop)->Prop|[],a,K=>K a|o::b,a,K=>match fY a.s o.guard with|some true=>yF P G a o.op λx T=>Mp P G b ⟨a.r,fV a.s o.dst x,T⟩ K|some false=>Mp P G b ⟨a.r,fV a.s o.dst (.v undef),a.T⟩ K|none=>False
def qL(G:L_)(st:St):List HOper->Prop|[]=>True| o::a=>(match fY st.s o.guard with
  |some true=>match cE st.T (dW G st.s) o.op with|some (x,_)=>o.dst.map (bA st.s)=some x|none=>False
  |some false=>o.dst.map (bA st.s)=some (.v undef)|none=>False)/\qL G st a
def bG:Operand->V_|.tmp t=>[t]|_=>[]
def pS:HOp->V_
 |.mov x=>bG x|.pick c a b=>bG c++bG a++bG b|.bin _ x y=>bG x++bG y|.eqa _ _ x y=>bG x++bG y|.eqb _ x y=>bG x++bG y|.eqp _ x y=>bG x++bG y|.un _ x=>bG x|.conv _ x=>bG x|.box x=>bG x|.alloc _=>[]|.bld _ ps=>ps.flatMap λp=>bG p.2.2|.bsl _ _ ps _=>ps.flatMap λp=>bG p.2.2|.bslS _ _ ps _=>ps.flatMap λp=>bG p.2.2|.ld _ p=>bG p|.st _ p x=>bG p++bG x|.fad p _=>bG p|.fld x _ _=>bG x|.iad x i _=>bG x++bG i|.iadA x i _ _=>bG x++bG i|.ixS x i=>bG x++bG i|.lenS x=>bG x|.lenL x=>bG x|.app x y _ _=>bG x++bG y|.ext x _=>bG x|.clo _ e=>e.flatMap bG|.call f g=>bG f++g.flatMap bG|.nilc x=>bG x|.slc x lo d _=>bG x++(match lo with|some o=>bG o|none=>[])++(match d with|some o=>bG o|none=>[])
 |.slcS x lo d=>bG x++(match lo with|some o=>bG o|none=>[])++(match d with|some o=>bG o|none=>[])
 |.nilS _ _ x=>bG x|.mm _ x y=>bG x++bG y|.mkm _=>[]|.lku _ _ _ m k _=>bG m++bG k|.mup _ _ m k x=>bG m++bG k++bG x|.men _ _ _ m k=>bG m++bG k|.mst m s x=>bG m++bG s++bG x|.del _ _ m k=>bG m++bG k|.lenM m=>bG m|.mks _ _ _ x y=>bG x++bG y|.s2b x=>bG x|.b2s x=>bG x|.b2b x=>bG x|.apS x y=>bG x++bG y|.slx x lo d mx _=>bG x++(match lo with|some o=>bG o|none=>[])++bG d++bG mx
 |.bmo _ _ e=>e.flatMap bG|.rgm m=>bG m|.nxt p=>bG p|.ent p=>bG p|.bad=>[]|.clr x _ _=>bG x
def Vr(o:HOper):V_:=pS o.op++(match o.guard with|some (j,_)=>[j]|none=>[])
def iE:HOp->Bool|.box _=>false|.alloc _=>false|.bsl _ _ _ _=>false|.bslS _ _ _ _=>false|.st _ _ _=>false|.app _ _ _ _=>false|.call _ _=>false|.mkm _=>false|.mup _ _ _ _ _=>false|.men _ _ _ _ _=>false|.mst _ _ _=>false|.del _ _ _ _=>false|.mks _ _ _ _ _=>false|.s2b _=>false|.b2b _=>false|.apS _ _=>false|.slx _ _ _ _ _=>false|.rgm _=>false|.nxt _=>false|.ent _=>false|.bad=>false|.clr _ _ _=>false|_=>true
structure Plan where
 hops:List HOper
 pre:List (List Nat)
def Plan.p(p:Plan)(i:Nat):V_:=p.pre.getD i []
def Plan.ng(p:Plan):Bool:=decide (p.hops.length<p.pre.length)
def Plan.quiet(p:Plan)(i:Nat):Bool :=
 match p.hops[i]? with
 |none=>false| some o=>iE o.op&&(match o.dst with|none=>false|some d=>(List.range p.hops.length).all λr=>match p.hops[r]? with|none=>true|some a=>!(Vr a).contains d||(p.p r).contains i)
def Plan.ready(p:Plan)(E:V_):V_:=(List.range p.hops.length).filter λi=>!E.contains i&&(p.p i).all E.contains
def Plan.pend(p:Plan)(E:V_):List HOper :=
 (E.filter λq=>p.quiet q&&!(E.any λh=>!p.quiet h&&(p.p h).contains q)).filterMap λq=>p.hops[q]?
def IH(P:Program)(G:L_)(b:List HOper):Nat->List HOper->St->(St->Prop)->Prop|0,_,a,K=>K a|n+1,c,a,K=>∀i o,c[i]?=some o->match fY a.s o.guard with|some true=>yF P G a o.op λx T=>qL G ⟨a.r,fV a.s o.dst x,T⟩ b/\IH P G b n (c.eraseIdx i) ⟨a.r,fV a.s o.dst x,T⟩ K|some false=>qL G ⟨a.r,fV a.s o.dst (.v undef),a.T⟩ b/\IH P G b n (c.eraseIdx i) ⟨a.r,fV a.s o.dst (.v undef),a.T⟩ K|none=>False
def vU (P:Program) (G:L_) (p:Plan):Nat->Bool->V_->St->(St->Prop)->Prop
 |0,_,_,_,_=>False
 | n+1,gc,E,st,K=>match(p.ready E).find? p.quiet with
  | some i=>match p.hops[i]? with
   | some o=>match fY st.s o.guard with
    |some true=>match cE st.T (dW G st.s) o.op with
     |some (x,_)=>vU P G p n gc (i::E) ⟨st.r,fV st.s o.dst x,st.T⟩ K
     |none=>False
    |some false=>vU P G p n gc (i::E) ⟨st.r,fV st.s o.dst (.v undef),st.T⟩ K
    |none=>False
   |none=>False
  | none=>match p.ready E with
   |[]=>K (if gc then DB [] st else st)
   |c::cs=>∀i,i∈c::cs->∃o,p.hops[i]?=some o/\match fY st.s o.guard with
    |some true=>yF P G st o.op λy T=>qL G ⟨st.r,fV st.s o.dst y,T⟩ (if iE o.op then [] else p.pend (i::E))/\vU P G p n (gc||!cs.isEmpty) (i::E) ⟨st.r,fV st.s o.dst y,T⟩ K
    |some false=>qL G ⟨st.r,fV st.s o.dst (.v undef),st.T⟩ (if iE o.op then [] else p.pend (i::E))/\vU P G p n (gc||!cs.isEmpty) (i::E) ⟨st.r,fV st.s o.dst (.v undef),st.T⟩ K
    |none=>False
def JV(P:Program)(G:L_):HD->St->(St->Prop)->Prop
 |.done b,a,K=>K (if b then DB [] a else a)|.no,_,_=>True| .q o next,a,K=>match fY a.s o.guard with
  |some true=>match cE a.T (dW G a.s) o.op with|some (x,_)=>JV P G next ⟨a.r,fV a.s o.dst x,a.T⟩ K|none=>False
  |some false=>JV P G next ⟨a.r,fV a.s o.dst (.v undef),a.T⟩ K|none=>False
 |.alt o c next d,a,K=>(match fY a.s o.guard with|some true=>yF P G a o.op λx T=>qL G ⟨a.r,fV a.s o.dst x,T⟩ c/\JV P G next ⟨a.r,fV a.s o.dst x,T⟩ K|some false=>qL G ⟨a.r,fV a.s o.dst (.v undef),a.T⟩ c/\JV P G next ⟨a.r,fV a.s o.dst (.v undef),a.T⟩ K|none=>False)/\JV P G d a K
 |.perm c e next,a,K=>IH P G c e.length e a λs=>JV P G next s K|.plan f g n h E,a,K=>vU P G ⟨f,g⟩ n h E a K
inductive Ex where
 |normal|exit (id:Nat)|ret
def Gr(d:V_):List (Nat×AV)->List (Nat×AV)|[]=>[]|(i,x)::r=>if d.contains i then(i,x)::Gr d r else Gr d r
def yJ:List (Nat×AV)->V_->O_->List (Nat×AV)|s,p::ps,x::a=>yJ (GW s p x) ps a|s,_,_=>s
def Rl(P:Program)(f:FuncId):Prop:=∃a c,P.funcs[f]?=some a/\a.body=some c/\¬a.name = "runtime.NumGoroutine"
def left(r:Loop)(c:Code):Loop:={r with state:=.done,pending:=some c}
def JZ(i:Nat)(r:Loop)(s:List (Nat×AV))(n:Nat)(post:AV->aK->Prop)(e:Ex)(st:St):Prop :=
 ∃a:Bool,match e with|.normal=>post (.v (.bool true)) ((if a then(DB [] ⟨n,[],st.T⟩).T else st.T).set i (some (.lp r s)))|.exit id=>post (.v (.bool false)) ((if a then(DB [] ⟨n,[],st.T⟩).T else st.T).set i (some (.lp (left r (.exit id)) s)))|.ret=>post (.v (.bool false)) ((if a then(DB [] ⟨n,[],st.T⟩).T else st.T).set i (some (.lp (left r .ret) s)))
def Vv(Q:Ex->St->Prop)(r:Nat)(s:List (Nat×AV))(n:Nat)(T:aK):Prop :=
 match cR T n with
 |some (.lp rec _)=>rec.state≠.busy/\(match rec.pending with|none=>Q .normal ⟨r,s,T.set n none⟩|some (.exit id)=>Q (.exit id) ⟨r,s,T.set n none⟩|some .ret=>Q .ret ⟨r,s,T.set n none⟩|_=>False)
 |_=>False
def fZ (P:Program) (G:L_):HC->(Ex->St->Prop)->St->Prop
 |.skip,Q,h=>Q .normal h|.reg q,Q,h=>Mp P G q h (Q .normal)|.regd d,Q,h=>JV P G d h (Q .normal)|.seq a b,Q,h=>fZ P G a (λe l=>match e with|.normal=>fZ P G b Q l|e=>Q e l) h
 |.cond c a b,Q,h=>match dW G h.s c with|.v (.bool t)=>if t then fZ P G a Q h else fZ P G b Q h|_=>False
 |.block id a,Q,h=>fZ P G a (λe l=>match e with|.exit j=>if j=id then Q .normal l else Q (.exit j) l|e=>Q e l) h
 |.loop d a,Q,h=>∃I:Nat->St->Prop,(∃n,I n (DB d h)\/I n h)/\∀n s,I n s->fZ P G a (λe p=>match e with|.normal=>∃m,m<n/\(I m (DB d p)\/I m p)|e=>Q e p) s
 |.exit id,Q,h=>Q (.exit id) h|.ret,Q,h=>Q .ret h|.kill d,Q,h=>Q .normal ⟨h.r,mV d h.s,h.T⟩|.own j c k,Q,h=>Q .normal (QT h j c k)|.shut j,Q,h=>Q .normal (DB [] (Rk h j))| .rng g ps d a b,Q,h=>∀r:Loop,r.state=.ready->r.pending=none->r.params.size=ps.length ->
   (∀(i:Nat)(s:List (Nat×AV))(T:aK)(args:O_)(post:AV->aK->Prop),cR T i=some (.lp r s)->args.length=ps.length ->
    fZ P G a (λe u=>match e with|.normal=>fZ P G b (JZ i r s T.length post) u|_=>False) ⟨T.length,yJ s ps args,T.set i none⟩->DA P G i args T post) ->
   match dW G h.s g with
   |.cl f o=>Rl P f/\IG P G f (.yl h.T.length::o) (h.T++[some (.lp r (Gr d h.s))]) λ_ w=>Vv Q h.r h.s h.T.length w|_=>False
def oZ(P:Program)(t:TypeId):Option Nat:=(P.info? t).map (·.size)
def GY(P:Program)(t:TypeId):Option (Option Nat):=
 match P.underlying t,P.info? t with
 |some (.struct _),some i=>some (some i.size)|some (.array _ _),some i=>some (some i.size)|some _,some _=>some none|_,_=>none
def aGP(ag:Bool)(n:Nat):Option Nat:=if ag then some n else none
def G7 (P:Program) (g:TypeId->Option (Bool×List LK)):List Field->Nat->Option (List LK)|[],_=>some []| f::c,a=>match g f.type with
  | some (d,b)=>if f.name ≠ "_" /\ f.offset=a/\GY P f.type=some (aGP d b.length) then
   match G7 P g c (a+b.length) with
   |some l=>some (b++l)|none=>none
   else none
  |none=>none
def iF(P:Program):Nat->TypeId->Option (Bool×List LK)|0,_=>none| n+1,t=>match P.underlying t with
  |some (.int k)=>some (false,[.int k])|some .bool=>some (false,[.bool])|some .string=>some (false,[.str])|some (.struct b)=>if P.stoodInHeld t then none else match G7 P (iF P n) b.toList 0 with|some a=>some (true,a)|none=>none
  |_=>none
def Ja(P:Program)(a:List Field):List (Nat×Operand)->Option (List (Nat×Nat×Operand))|[]=>some []| (i,x)::r=>match a[i]? with|none=>none|some f=>match oZ P f.type,Ja P a r with|some n,some l=>some ((f.offset,n,x)::l)|_,_=>none
def Jb(n:Nat):List (Nat×Operand)->List (Nat×Nat×Operand)|[]=>[]|(i,x)::r=>(i*n,n,x)::Jb n r
def II(z:C_):Nat->C_|0=>[]|n+1=>z++II z n
def isT:Operand->Bool|.tmp _=>true|_=>false
def eqG (P:Program):Nat->TypeId->Bool
 |0,_=>true
 | d+1,t=>match P.underlying t with
  |some (.interface ms)=>!ms.isEmpty
  |some (.struct fs)=>fs.toList.any λf=>f.name != "_" && eqG P d f.type
  |some (.array _ e)=>eqG P d e
  |_=>false
def aNh(P:Program):∀(d:Nat)(t:TypeId),eqG P d t=P.eqGuardType d t
 |0,_=>rfl
 |d+1,t=>by
  have ih:eqG P d=P.eqGuardType d:=funext (aNh P d);unfold eqG Program.eqGuardType;rw[ih];split<;>simp_all
def gG (P:Program) (o:Oper):Option HOp :=
 match o.op with
 |.move x=>some (.mov x)|.assign x=>some (.mov x)|.pick c a b=>some (.pick c a b)| .binOp h t x y _=>
  if h=.eql\/h=.neq then
   match P.underlying t with
   |some (.int _)=>some (.bin h x y)|some .bool=>some (.eqb (h==.neq) x y)|some (.pointer _)=>if isT x&&isT y then some (.eqp (h==.neq) x y) else none|some .string=>some (.bin h x y)|some (.struct _)=>match iF P 20 t with|some (_,w)=>if eqG P P.depth t then none else some (.eqa (h==.neq) w x y)|none=>none
   |_=>none
  else some (.bin h x y)
 |.unOp h _ x=>some (.un h x)|.convert r s x=>match P.underlying r,P.underlying s with|some _,some (.int k)=>some (.conv k x)|_,_=>none
 |.box _ x=>some (.box x)| .alloc e=>match P.info? e with
  |some i=>match i.zero with|some z=>if z.cells.toList.all (λx=>gS (.v x)) then some (.alloc z.cells.toList) else none|none=>none
  |none=>none
 | .build t d=>match P.underlying t,P.info? t with
  |some (.struct j),some i=>match i.zero,Ja P j.toList d.toList with|some z,some l=>if j.toList.all (λf=>(oZ P f.type).isSome) then some (.bld z.cells.toList l) else none|_,_=>none
  |_,_=>none
 | .buildSlice t g d=>match P.underlying t with
  | some (.slice e)=>match P.info? e with
   |some i=>match i.zero with|some z=>if z.cells.size=i.size/\0<i.size/\g*i.size<=2^20/\0<g then some (.bsl i.size (II z.cells.toList g) (Jb i.size d.toList) g) else none|none=>none
   |none=>none
  |_=>none
 |.load t a=>match GY P t with|some n=>some (.ld n a)|none=>none
 |.store t a x=>match oZ P t with|some n=>some (.st n a x)|none=>none
 | .fieldAddr t x f=>match P.underlying t with
  | some (.struct j)=>match j[f]? with
   |some m=>match oZ P m.type with|some n=>if n=0 then none else some (.fad x m.offset)|none=>none
   |none=>none
  |_=>none
 | .field t x f=>match P.underlying t with
  | some (.struct j)=>match j[f]? with
   |some m=>match GY P m.type with|some n=>some (.fld x m.offset n)|none=>none
   |none=>none
  |_=>none
 | .indexAddr t x q=>match P.underlying t with
  |some (.slice e)=>match oZ P e with|some k=>if k=0 then none else some (.iad x q k)|none=>none
  |some (.array g e)=>match oZ P e with|some k=>some (.iadA x q g k)|none=>none
  |_=>none
 |.index t x q=>match P.underlying t with|some .string=>some (.ixS x q)|_=>none
 |.extract x i=>some (.ext x i)|.nilCheck x=>some (.nilc x)|.makeFunc (.func f) first p=>if first.size=0 then some (.clo f p.toList) else none
 | .call c=>match c.callee with
  |.value f=>some (.call f c.args.toList)| .builtin .len=>match c.argTypes[0]?,c.args.toList with
   |some t,[x]=>match P.underlying t with|some .string=>some (.lenS x)|some (.slice _)=>some (.lenL x)|_=>none
   |_,_=>none
  | .builtin .append=>match c.argTypes.toList,c.args.toList with
   | [t,u],[x,y]=>if u≠t then none else match P.underlying t with
    | some (.slice e)=>match P.info? e with
     |some i=>match i.zero with|some z=>if z.cells.size=i.size/\0<i.size then some (.app x y i.size i.bytes) else none|none=>none
     |none=>none
    |_=>none
   |_,_=>none
  |_=>none
 |_=>none
def bH{T:aK}{i:Nat}{o:AObj}(e:cR T i=some o):T[i]?=some (some o):=by unfold cR at e;split at e;rename_i a h;cases e;exact h;simp at e
def YR{T:aK}{i:Nat}{o:AObj}(e:cR T i=some o):i<T.length:=by have:=bH e;rcases eD i T.length with h|h;exact h;simp[sX h]at this
section
variable{P:Program}{G:L_}{h:GH}{φ:Nat->Value}{n:Nat}{T:aK}{w:World}{s:List (Nat×AV)}{a:Act}
def uN(h:GH)(φ:Nat->Value)(n:Nat)(s:List (Nat×AV))(a:Act):Prop:=∀i,Rp h φ n (bA s i) (a.tmps.getD i undef)
def dN(d:tU G h)(c:uN h φ n s a)(x:Operand):Rp h φ n (dW G s x) (a.eval x):=by
 cases x with
 |tmp t=>exact c t|const v=>simp[dW,Act.eval,Rp]|global g=>
  simp only[dW,Act.eval];split;rename_i e b;simp only[Rp];exact⟨g,0,rfl,d g e b⟩;simp[Rp]
 |func f=>simp only[dW,Act.eval,Rp];exact⟨#[],rfl,sg⟩
def lW(c:tU G h)(b:uN h φ n s a){x:Operand}{v:Value}(e:dW G s x=.v v):a.eval x=v:=by have:=dN c b x;rw[e]at this;simpa[Rp]using this
def Mq(c:tU G h)(b:uN h φ n s a)(l:List Operand):cC h φ n (l.map (dW G s)) (l.map a.eval):=by
 induction l with
 |nil=>simp[cC]|cons x l ih=>simp only[fG,cC];exact⟨_,_,rfl,dN c b x,ih⟩
def CZ:∀{x:AV}{u:Value},Rp h φ n x u->(∀c∈dT x,gS c=true)->cC h φ n (dT x) u.cells.toList
 |.ag m,u,e,_=>by
  simp only[Rp]at e;obtain⟨p,rfl,h2⟩:=e;exact h2
 | .v x,u,e,b=>by
  simp only[Rp]at e;subst e
  cases u with
  | agg p=>
   simp only[dT,Value.cells];exact cC.mk s_ λi c u d q=>by
    simp only[gE]at d;rw[q]at d;simp at d;subst d;simp[Rp]
  |_=>simp[dT,Value.cells,cC,Rp]
 |.ls k s,u,e,_=>by
  have a:=e;simp only[Rp,oB]at a;obtain⟨A,c,rfl,_⟩:=a;simp only[dT,Value.cells,cC];exact⟨_,[],rfl,e,rfl⟩
 |.own i,u,e,_=>by
  have a:=e;simp only[Rp]at a;obtain⟨_,_,A,l,c,rfl⟩:=a;simp only[dT,Value.cells,cC];exact⟨_,[],rfl,e,rfl⟩
 |.ptr i o,u,e,_=>by
  have a:=e;simp only[Rp]at a;obtain⟨_,g,_,rfl⟩:=a;simp only[dT,Value.cells,cC];exact⟨_,[],rfl,e,rfl⟩
 |.elt i k j o,u,e,_=>by
  have a:=e;simp only[Rp]at a;obtain⟨_,g,_,_,_,rfl⟩:=a;simp only[dT,Value.cells,cC];exact⟨_,[],rfl,e,rfl⟩
 |.mp i,u,e,_=>by
  have a:=e;simp only[Rp]at a;obtain⟨_,_,g,rfl⟩:=a;simp only[dT,Value.cells,cC];exact⟨_,[],rfl,e,rfl⟩
 |.yl i,u,e,_=>by
  have a:=e;simp only[Rp]at a;obtain⟨_,_,g,rfl⟩:=a;simp only[dT,Value.cells,cC];exact⟨_,[],rfl,e,rfl⟩
 |.vw i k j o,u,e,_=>by
  have a:=e;simp only[Rp]at a;obtain⟨_,A,c,rfl,_⟩:=a;simp only[dT,Value.cells,cC];exact⟨_,[],rfl,e,rfl⟩
 |.rp m,u,e,_=>by
  have a:=e;simp only[Rp]at a;obtain⟨_,_,rfl,_⟩:=a;simp only[dT,Value.cells,cC];exact⟨_,[],rfl,e,rfl⟩
 |.cl f m,u,e,_=>by
  have a:=e;simp only[Rp]at a;obtain⟨p,rfl,_⟩:=a;simp only[dT,Value.cells,cC];exact⟨_,[],rfl,e,rfl⟩
 |.bm f r m,u,e,_=>by
  have a:=e;simp only[Rp]at a;obtain⟨p,rfl,_⟩:=a;simp only[dT,Value.cells,cC];exact⟨_,[],rfl,e,rfl⟩
 |.tup m,u,e,b=>by simp[dT,gS]at b|.any,u,e,b=>by simp[dT,gS]at b
def Lr:∀{x:AV}{u:Value},Rp h φ n x u->gS x=true->u.oneCell'=true
 |.v x,u,e,a=>by
  simp only[Rp]at e;subst e;cases u<;>simp_all[gS,Value.oneCell']
 |.ls k p,u,e,_=>by simp only[Rp,oB]at e;obtain⟨A,c,rfl,_⟩:=e;rfl
 |.own i,u,e,_=>by simp only[Rp]at e;obtain⟨_,_,A,l,c,rfl⟩:=e;rfl
 |.ptr i o,u,e,_=>by simp only[Rp]at e;obtain⟨_,g,_,rfl⟩:=e;rfl
 |.elt i k j o,u,e,_=>by simp only[Rp]at e;obtain⟨_,g,_,_,_,rfl⟩:=e;rfl
 |.vw i k j o,u,e,_=>by simp only[Rp]at e;obtain⟨_,A,c,rfl,_⟩:=e;rfl
 |.mp i,u,e,_=>by simp only[Rp]at e;obtain⟨_,_,g,rfl⟩:=e;rfl
 |.yl i,u,e,_=>by simp only[Rp]at e;obtain⟨_,_,g,rfl⟩:=e;rfl
 |.rp b,u,e,_=>by simp only[Rp]at e;obtain⟨_,_,rfl,_⟩:=e;rfl
 |.cl f b,u,e,_=>by simp only[Rp]at e;obtain⟨d,rfl,_⟩:=e;rfl
 |.bm f m b,u,e,_=>by simp only[Rp]at e;obtain⟨d,rfl,_⟩:=e;rfl
 |.ag b,u,e,a=>by simp[gS]at a|.tup b,u,e,a=>by simp[gS]at a|.any,u,e,a=>by simp[gS]at a
def YS{cs:O_}{us:C_}(a:cC h φ n cs us){off:Nat}{x:AV}:∀{m:Option Nat},Mo cs off m=some x ->
  match m with
  |none=>∃u,us[off]?=some u/\Rp h φ n x u
  |some k=>off+k<=us.length/\Rp h φ n x (.agg ((us.drop off).take k).toArray)
 |none,e=>by
  simp only[Mo]at e;exact a.get e
 |some k,e=>by
  simp only[Mo]at e;split at e
  ·rename_i b;injection e with e;subst e;have c:=a.length;exact⟨o_,by simp only[Rp];exact⟨_,rfl,by simpa using(a.drop off).take k⟩⟩
  ·simp at e
def QU{i:Nat}{cs:O_}(hI:Inv h φ w T)(a:cR T i=some (.box cs)):
 ∃(g:Nat)(us:Array Value)(E:TypeId),φ i=.pointer (some ⟨g,0,none⟩)/\w.heap[g]?=some (.cells us E (0,0))/\h g=none/\cC h φ T.length cs us.toList :=
 hI.obj i _ (bH a)
def DD{g:Nat}{us:Array Value}{E:TypeId}{b:Nat×Nat}(a:w.heap[g]?=some (.cells us E b))(o:Nat):w.cell? ⟨g,o,none⟩=us[o]?:=by simp[World.cell?,a]
def Tf{b o:Nat}{u:Value}(hI:Inv h φ w T)(e:oY h b o=some u):w.cell? ⟨b,o,none⟩=some u:=by
 unfold oY at e
 cases a:h b with
 |none=>simp[a]at e|some d=>
  obtain⟨E,f,c⟩:=hI.gh b d a;rw[DD c];simpa[a]using e
def Fu{t:TypeId}{m:Option Nat}(e:GY P t=some m):
 match m with
 |none=>(isAgg t).run P w=.ok false w/\True|some k=>(isAgg t).run P w=.ok true w/\(Go.sizeOf t).run P w=.ok k w:=by
 unfold GY at e;split at e;rename_i c i a b;cases e;simp[isAgg,run_underlying a,Go.sizeOf,typeInfo,b];rename_i l f i a b;cases e;simp[isAgg,run_underlying a,Go.sizeOf,typeInfo,b];rename_i d i h1 h2 a b;cases e;refine⟨?_,trivial⟩;simp only[isAgg,Sem.run_bind,run_underlying a,Result.andThen_ok];cases d<;>first|rfl|(exfalso;first|exact h1 _ rfl|exact h2 _ _ rfl)
 simp at e
def Vw{t:TypeId}{m:Option Nat}(e:GY P t=some m){b o:Nat}{us:C_}(g:∀j u,us[j]?=some u->w.cell? ⟨b,o+j,none⟩=some u):
 match m with
 |none=>∀u,us[0]?=some u->(loadVar t ⟨b,o,none⟩).run P w=.ok u w|some k=>k<=us.length->(loadVar t ⟨b,o,none⟩).run P w=.ok (.agg (us.take k).toArray) w:=by
 have d:=Fu (w:=w) e
 cases m with
 |none=>
  intro u h;have:=g 0 u h;simp only[mG]at this;simp[loadVar,d.1,this]
 | some k=>
  intro i
  have f:=run_loadCells_list (P:=P) (w:=w) ⟨b,o,none⟩ (us.take k) (λj v c=>by
   have:(⟨b,o,none⟩:Addr).add j=⟨b,o+j,none⟩:=by unfold Addr.add;split<;>simp_all
   rw[this];apply g j v;rw[BT]at c;split at c;exact c
   simp at c)
  have a:(us.take k).length=k:=c_;rw[a]at f;simp[loadVar,d.1,d.2,f]
end
section
variable{P:Program}{G:L_}{h:GH}{φ:Nat->Value}{T:aK}{w:World}{s:List (Nat×AV)}{a:Act}
def Rm {op:BinOp} {t:TypeId} {x y:Operand} {a b u:Value} (e:bV op a b=some u):
    (do eqGuard op t x y a b;binOp op t a b:Sem Value).run P w=.ok u w:=by
  unfold bV at e;split at e
  · rename_i k p d q
    cases op
    case shl=>
      simp only at e
      split at e
      · simp at e
      · rename_i c
        injection e with e;subst e
        have:(binOp BinOp.shl t (Value.int k p) (Value.int d q))=Op.shift BinOp.shl k p d q:=rfl
        simp[eqGuard,this,Op.shift,c]
    case shr=>
      simp only at e
      split at e
      · simp at e
      · rename_i c
        injection e with e;subst e
        have:(binOp BinOp.shr t (Value.int k p) (Value.int d q))=Op.shift BinOp.shr k p d q:=rfl
        simp[eqGuard,this,Op.shift,c]
    all_goals
      simp only at e
      split at e
      · rename_i g
        subst g
        first
          |(injection e with e;subst e;simp[eqGuard,binOp,Op.intArith,Op.intBits,Op.intCmp];done)
          | (split at e
             · simp at e
             · rename_i c
               injection e with e;subst e;simp[eqGuard,binOp,Op.intDiv,c])
          |(simp at e;done)
      · simp at e
  · rename_i p q
    cases op<;>simp only at e<;>(try split at e)<;>(try (simp at e;done))<;>(injection e with e;subst e)<;>(try (simp[eqGuard,binOp,Op.stringOp];done))
    rename_i f
    unfold maxLen at f
    simp[eqGuard,binOp,Op.stringOp]
    omega
  · simp at e
def Mr{t:TypeId}(e:P.underlying t=some .bool){a b:Bool}:(Op.equal t (.bool a) (.bool b)).run P w=.ok (a==b) w:=by
 have c:∀d,(Op.equalIn (d+1) t (.bool a) (.bool b)).run P w=.ok (a==b) w:=λd=>by simp[Op.equalIn,run_underlying e]
 exact c 9999
def aEW{op:BinOp}(cE:op=.eql\/op=.neq){t:TypeId}(c:P.underlying t=some .bool){x y:Operand}{a b:Bool}:
 (do eqGuard op t x y (.bool a) (.bool b);binOp op t (.bool a) (.bool b):Sem Value).run P w=.ok (.bool (if op==.neq then !(a==b) else a==b)) w:=by
 rcases cE with rfl|rfl;have e:binOp .eql t (.bool a) (.bool b)=(do pure (.bool (<-Op.equal t (.bool a) (.bool b)))):=rfl;rw[e];simp[eqGuard,Mr c];have e:binOp .neq t (.bool a) (.bool b)=(do pure (.bool (!(<-Op.equal t (.bool a) (.bool b))))):=rfl;rw[e];simp[eqGuard,Mr c]
def aM3{t e:TypeId}(b:P.underlying t=some (.pointer e)):(Op.equal t (.pointer none) (.pointer none)).run P w=.ok true w:=by
 have a:∀d,(Op.equalIn (d+1) t (.pointer none) (.pointer none)).run P w=.ok true w:=λd=>by simp[Op.equalIn,run_underlying b]
 exact a 9999
def aPk{op:BinOp}(cE:op=.eql\/op=.neq){t e:TypeId}(a:P.underlying t=some (.pointer e)){x y:Operand}:
 (do eqGuard op t x y (.pointer none) (.pointer none);binOp op t (.pointer none) (.pointer none):Sem Value).run P w=.ok (.bool (!(op==.neq))) w:=by
 rcases cE with rfl|rfl;have e:binOp .eql t (.pointer none) (.pointer none)=(do pure (.bool (<-Op.equal t (.pointer none) (.pointer none)))):=rfl;rw[e];simp[eqGuard,aM3 a];have e:binOp .neq t (.pointer none) (.pointer none)=(do pure (.bool (!(<-Op.equal t (.pointer none) (.pointer none))))):=rfl;rw[e];simp[eqGuard,aM3 a]
def aHj{op:UnOp}{a u:Value}(e:pun op a=some u):(Op.unary op a).run P w=.ok u w:=by
 unfold pun at e;split at e
 ·cases op<;>simp only at e<;>(try (simp at e;done))<;>(cases e;simp[Op.unary])
 ·rename_i k p;cases op<;>simp only at e<;>(try (simp at e;done))<;>(cases e;simp[Op.unary,Op.intArith,Op.intBits])
 simp at e
end
section
variable{P:Program}{w:World}
def Bf:∀{ks:List LK}{xs a:C_}{b:Bool},rJ ks xs a=some b->xs.length=ks.length/\a.length=ks.length
 |[],xs,a,b,e=>by cases xs<;>cases a<;>simp_all[rJ]
 | k::ks,xs,a,b,e=>by
  cases xs with
  |nil=>cases k<;>simp[rJ]at e
  | cons x xs=>
   cases a with
   |nil=>cases k<;>cases x<;>simp[rJ]at e
   | cons y a=>
    cases k<;>cases x<;>cases y<;>simp only[rJ]at e<;>(try (simp at e;done))
    case int.int.int k k1 p k2 q=>
     split at e;split at e;rename_i r c;have:=Bf c;simp_all;simp at e;simp at e
    all_goals
     split at e
     rename_i r c
     have:=Bf c
     simp[this.1,this.2]
     simp at e
def IJ:∀{ks ls:List LK}{xs d:C_}{b:Bool},rJ (ks++ls) xs d=some b ->
 ∃h g,rJ ks (xs.take ks.length) (d.take ks.length)=some h/\rJ ls (xs.drop ks.length) (d.drop ks.length)=some g/\b=(h&&g)
 |[],ls,xs,d,b,e=>⟨true,b,by simp[rJ],X_,s_⟩| k::ks,ls,xs,d,b,e=>by
  cases xs with
  |nil=>cases k<;>simp[rJ]at e
  | cons x xs=>
   cases d with
   |nil=>cases k<;>cases x<;>simp[rJ]at e
   | cons y d=>
    simp only[jC]at e;cases k<;>cases x<;>cases y<;>simp only[rJ]at e<;>(try (simp at e;done))
    case int.int.int k k1 a k2 c=>
     split at e;rename_i i;split at e;rename_i r f;injection e with e;obtain⟨h,g,h1,h2,h3⟩:=IJ f;grind[rJ,Bool.and_assoc];simp at e;simp at e
    case bool.bool.bool a c=>
     split at e;rename_i r f;injection e with e;obtain⟨h,g,h1,h2,h3⟩:=IJ f;grind[rJ,Bool.and_assoc];simp at e
    case str.string.string a c=>
     split at e;rename_i r f;injection e with e;obtain⟨h,g,h1,h2,h3⟩:=IJ f;grind[rJ,Bool.and_assoc];simp at e
abbrev Ms(ag:Bool)(xs:List Value):Value:=iY ag xs
def Eg{t:TypeId}{X:Array Value}{off:Nat}{ag:Bool}{n:Nat}(b:GY P t=some (aGP ag n))(c:ag=false->n=1)(d:off+n<=X.size):
 (part t X off).run P w=.ok (Ms ag ((X.toList.drop off).take n)) w:=by
 cases ag with
 |false=>
  have:=c rfl;subst this;have h0:GY P t=some none:=b;have h:=Fu (w:=w) h0;have a:X[off]?=some X[off]:=Ri o_;simp only[part,Sem.run_bind,h.1,Result.andThen_ok,jJ,if_false,a,iY];simp[Hw,a]
 |true=>
  have h0:GY P t=some (some n):=b;have h:=Fu (w:=w) h0;simp only[part,Sem.run_bind,h.1,h.2,Result.andThen_ok,if_true,iY,Sem.run_pure];congr 2;grind
def QV {n:Nat} (ih:∀t i ks,iF P n t=some (i,ks)->(i=false->ks.length=1)/\∀d,n<=d->∀u s b,rJ ks u s=some b->(Op.equalIn d t (Ms i u) (Ms i s)).run P w=.ok b w)
 {d:Nat} (v:n<=d) (X Y:Array Value):∀(p:List Field)(off:Nat)(ks:List LK)(b:Bool),G7 P (iF P n) p off=some ks ->
  rJ ks (X.toList.drop off) (Y.toList.drop off)=some b->off<=X.size->off<=Y.size->(Op.eqFields d X Y p).run P w=.ok b w
 |[],off,ks,b,a,j,_,_=>by
  simp only[G7]at a;cases a;cases y:X.toList.drop off<;>cases x:Y.toList.drop off<;>rw[y,x]at j<;>simp[rJ]at j;subst j;simp[Op.eqFields]
 | f::p,off,ks,b,a,j,H,G=>by
  simp only[G7]at a;split at a;rename_i i g C;split at a;rename_i D;obtain⟨h,e,o⟩:=D;split at a;rename_i l A;cases a;obtain⟨F,E,h1,h2,h3⟩:=IJ j;have m:=Bf j;simp only[vY,dZ,GV]at m;obtain⟨c,B⟩:=ih _ _ _ C;have r:(part f.type X f.offset).run P w=.ok (Ms i ((X.toList.drop off).take g.length)) w:=by rw[e];exact Eg o c o_
  have q:(part f.type Y f.offset).run P w=.ok (Ms i ((Y.toList.drop off).take g.length)) w:=by rw[e];exact Eg o c o_
  have z:=B d v _ _ _ h1;simp only[Op.eqFields,h,ne_eq,not_false_eq_true,if_true,Sem.run_bind,r,q,Result.andThen_ok,z];rw[Kg,Kg]at h2;have k:=QV ih v X Y p (off+g.length) l E A h2 o_ o_;cases F;simp[h3];simp[k,h3];simp at a;simp at a;simp at a
def Fv:∀(n:Nat)(t:TypeId)(ag:Bool)(ks:List LK),iF P n t=some (ag,ks) ->
 (ag=false->ks.length=1)/\∀d,n<=d->∀xs c b,rJ ks xs c=some b->(Op.equalIn d t (Ms ag xs) (Ms ag c)).run P w=.ok b w
 |0,_,_,_,e=>by simp[iF]at e
 | n+1,t,ag,ks,e=>by
  have f:∀(k:LK)(xs c:C_)(b:Bool),rJ [k] xs c=some b->∃x y,xs=[x]/\c=[y]:=by
   intro k xs c b a;have:=Bf a
   match xs,c,this with
   |[x],[y],_=>exact⟨x,y,rfl,rfl⟩
  simp only[iF]at e;split at e
  ·rename_i k g;injection e with e;injection e with j i;subst j;subst i;refine⟨λ_=>rfl,λd o xs c b a=>?_⟩;obtain⟨d,rfl⟩:∃m,d=m+1:=⟨d-1,o_⟩
   obtain⟨x,y,rfl,rfl⟩:=f _ _ _ _ a;cases x<;>cases y<;>simp only[rJ]at a<;>(try (simp at a;done))
   split at a;rename_i u;obtain⟨rfl,rfl⟩:=u;injection a with a;subst a;simp only[iY,yH,jJ,if_false,List.getD_cons_zero];exact run_equalIn_int w d t _ _ _ _ g;simp at a
  ·rename_i g;injection e with e;injection e with j i;subst j;subst i;refine⟨λ_=>rfl,λd o xs c b a=>?_⟩;obtain⟨d,rfl⟩:∃m,d=m+1:=⟨d-1,o_⟩
   obtain⟨x,y,rfl,rfl⟩:=f _ _ _ _ a;cases x<;>cases y<;>simp only[rJ]at a<;>(try (simp at a;done))
   injection a with a;subst a;simp[iY,run_equalIn_bool' w d t _ _ g]
  ·rename_i g;injection e with e;injection e with j i;subst j;subst i;refine⟨λ_=>rfl,λd o xs c b a=>?_⟩;obtain⟨d,rfl⟩:∃m,d=m+1:=⟨d-1,o_⟩
   obtain⟨x,y,rfl,rfl⟩:=f _ _ _ _ a;cases x<;>cases y<;>simp only[rJ]at a<;>(try (simp at a;done))
   injection a with a;subst a;simp[iY,run_equalIn_string w d t _ _ g]
  rename_i q g;split at e;simp at e;rename_i r;split at e;rename_i l s;injection e with e;injection e with j i;subst j;subst i;refine⟨λh=>by simp at h,λd o xs c b a=>?_⟩;obtain⟨d,rfl⟩:∃m,d=m+1:=⟨d-1,o_⟩
  have p:P.fieldsOf t=q:=by simp[Program.fieldsOf,g]
  have:=run_equalIn_struct (P:=P) w d t xs.toArray c.toArray (by rw[p];exact g) kw;simp only[iY,if_true];rw[this,p];exact QV (Fv n) o_ xs.toArray c.toArray q.toList 0 l b s ov s_ s_;simp at e;simp at e
end
def cK.sub{h:GH}{cs:O_}{us:C_}(a:cK h cs us)(m k:Nat):cK h ((cs.drop m).take k) ((us.drop m).take k):=
 cK.mk (by simp[a.length]) λi c u d b=>by rw[BT]at d b;split at d;rw[if_pos (by assumption)]at b;rw[Hw]at d b;obtain⟨e,h1,h2⟩:=a.get d;rw[h1]at b;cases b;exact h2;simp at d
def mR.vals{h:GH}{b:Nat}:∀{cs:O_}{o:Nat},mR h b cs o->∃d,cK h cs d/\∀j u,d[j]?=some u->oY h b (o+j)=some u
 |[],o,_=>⟨[],by simp[cK],λj u a=>by simp at a⟩
 |c::cs,o,e=>by
  simp only[mR]at e;obtain⟨⟨u,_,h1,h2⟩,h3⟩:=e;obtain⟨d,g,f⟩:=h3.vals;refine⟨u::d,by simp only[cK];exact⟨u,d,rfl,h2,g⟩,λj x a=>?_⟩
  cases j with
  |zero=>simp only[sW,E_]at a;subst a;exact h1
  |succ j=>simp only[oX]at a;rw[<-f j x a];congr 1;omega
def Mt{α:Type}{k:Nat}:∀{es:List (List α)},(∀e∈es,e.length=k)->∀{j:Nat}{e:List α},es[j]?=some e->(es.flatten.drop (j*k)).take k=e
 |[],_,j,e,a=>by simp at a
 | d::es,b,j,e,a=>by
  have c:=b d s_
  cases j with
  |zero=>simp only[sW,E_]at a;subst a;simp[<-c]
  |succ j=>
   simp only[oX]at a;have:(j+1)*k=d.length+j*k:=by rw[Gp,c];omega
   rw[zK,this,List.drop_append,LB o_];simp only[dM];rw[(o_:d.length+j*k-d.length=j*k)];exact Mt (λe f=>b e (by simp[f])) a
def Af{α:Type}{k:Nat}:∀{es:List (List α)},(∀e∈es,e.length=k)->es.flatten.length=es.length*k|[],_=>by simp|d::es,a=>by rw[zK,dZ,Af (λe b=>a e (by simp[b])),a d (by simp),sE,Gp];omega
section
variable{P:Program}{G:L_}{h:GH}{φ:Nat->Value}{T:aK}{w:World}{s:List (Nat×AV)}{a:Act}
def aC5{t:TypeId}{m:Option Nat}(f:GY P t=some m){us:C_}{cs:O_}{n:Nat}{b o off:Nat}(g:cC h φ n cs us)(i:∀j u,us[j]?=some u->w.cell? ⟨b,o+j,none⟩=some u)
 {x:AV} (e:Mo cs off m=some x):∃v,(loadVar t ⟨b,o+off,none⟩).run P w=.ok v w/\Rp h φ n x v:=by
 have c:=YS g e;have a:=Vw (P:=P) (w:=w) f (b:=b) (o:=o+off) (us:=us.drop off) (λj u d=>by rw[Hw]at d;have:=i _ _ d;rw[sY];exact this)
 cases m with
 |none=>
  obtain⟨u,h1,h2⟩:=c;exact⟨u,a u (by rw[Hw];simpa using h1),h2⟩
 |some k=>
  obtain⟨h1,h2⟩:=c;exact⟨_,a (by rw[vY];omega),h2⟩
def AS {i k:Nat} {es:N_} (hI:Inv h φ w T) (b:cR T i=some (.arr k es)):
 (∀e∈es,e.length=k/\∀c∈e,aX c=true)/\((∃A,φ i=.slice A 0 0/\es=[]) \/
  ∃(g c:Nat)(a:Array Value)(E:TypeId),φ i=.slice (some ⟨g,0,none⟩) es.length (c+1)/\w.heap[g]?=some (.cells a E (0,0))/\es.length<=c+1/\c+1<=maxLen/\a.size=(c+1)*k/\h g=none /\
   cK h es.flatten (a.toList.take (es.length*k))):=hI.obj i _ (bH b)
def Ls{b:Bool}{c:AV}(a:PO b c=true):gS c=true:=by
 cases b with
 |false=>exact a|true=>
  cases c<;>simp_all[PO,aX,gS];rename_i v;cases v<;>simp_all[aX]
def C6(h:GH)(φ:Nat->Value)(n:Nat)(b:Bool)(cs:O_)(us:C_):Prop:=if b then cK h cs us else cC h φ n cs us
def C6.toL{φ:Nat->Value}{n:Nat}{b:Bool}{cs:O_}{us:C_}(a:C6 h φ n b cs us):cC h φ n cs us:=by
 cases b with
 |true=>exact cK.to a|false=>exact a
def DE{o:Option AObj}{k:Nat}{es:N_}{b:Bool}(e:sZ o=some (k,es,b)):o=some (jE b k es):=by
 cases o with
 |none=>simp[sZ]at e|some o=>cases o<;>simp[sZ]at e<;>(obtain⟨rfl,rfl,rfl⟩:=e;rfl)
def mS {φ:Nat->Value} {n:Nat} {i:Nat} {b:Bool} {k:Nat} {es:N_}:uF h φ n w i (jE b k es)↔((∀e∈es,e.length=k/\∀c∈e,PO b c=true)/\((∃A,φ i=.slice A 0 0/\es=[]) \/
   ∃(g c:Nat)(a:Array Value)(E:TypeId),φ i=.slice (some ⟨g,0,none⟩) es.length (c+1)/\w.heap[g]?=some (.cells a E (0,0))/\es.length<=c+1/\c+1<=maxLen/\a.size=(c+1)*k/\h g=none /\
    C6 h φ n b es.flatten (a.toList.take (es.length*k)))):=by cases b<;>exact Iff.rfl
def rK {i k:Nat} {es:N_} {b:Bool} (hI:Inv h φ w T) (d:sZ (cR T i)=some (k,es,b)):
 (∀e∈es,e.length=k/\∀c∈e,PO b c=true)/\((∃A,φ i=.slice A 0 0/\es=[]) \/
  ∃(g c:Nat)(a:Array Value)(E:TypeId),φ i=.slice (some ⟨g,0,none⟩) es.length (c+1)/\w.heap[g]?=some (.cells a E (0,0))/\es.length<=c+1/\c+1<=maxLen/\a.size=(c+1)*k/\h g=none /\
   C6 h φ T.length b es.flatten (a.toList.take (es.length*k))):=mS.1 (hI.obj i _ (bH (DE d)))
def cC.sub{φ:Nat->Value}{n:Nat}{cs:O_}{us:C_}(a:cC h φ n cs us)(m k:Nat):cC h φ n ((cs.drop m).take k) ((us.drop m).take k):=(a.drop m).take k
def QW{i k:Nat}{es:N_}{b:Bool}(hI:Inv h φ w T)(p:sZ (cR T i)=some (k,es,b)){j:Nat}{e:O_}(l:es[j]?=some e):
 ∃(g c:Nat)(us:C_),φ i=.slice (some ⟨g,0,none⟩) es.length (c+1)/\cC h φ T.length e us/\∀m u,us[m]?=some u->w.cell? ⟨g,j*k+m,none⟩=some u:=by
 obtain⟨o,h1|⟨g,c,s,E,f,n,h2,h3,v,t,r⟩⟩:=rK hI p;rw[h1.choose_spec.2]at l;simp at l;have a:=r.toL.sub (j*k) k;rw[Mt (λe q=>(o e q).1) l]at a;refine⟨g,c,_,f,a,λm u d=>?_⟩;rw[DD n];rw[BT]at d;split at d;rw[Hw,BT]at d;split at d;rw[<-d];simp;simp at d;simp at d
def iG(b o m:Nat):(⟨b,o,none⟩:Addr).add m=⟨b,o+m,none⟩:=by unfold Addr.add;split<;>simp_all
def Mu {t:TypeId} {m:Option Nat} (I:GY P t=some m) (R:tU G h) (hI:Inv h φ w T) (Q:uN h φ T.length s a) {p:Operand} {x:AV} {T':aK}
 (f:cE T (dW G s) (.ld m p)=some (x,T')):T'=T/\∃v,(Instr.loadAt t (a.eval p)).run P w=.ok v w/\Rp h φ T.length x v:=by
 have r:=dN R Q p;simp only[cE]at f;split at f;rename_i i H q;rw[q]at r;simp only[Rp]at r;obtain⟨_,g,z,B⟩:=r;split at f;rename_i U J;split at f;rename_i y A;cases f;obtain⟨S,K,E,d,L,_,M⟩:=QU hI J;rw[z]at d;cases d;refine⟨rfl,?_⟩;rw[B];simp only[Instr.loadAt,Instr.sureAddr];have:=aC5 (P:=P) (w:=w) (b:=g) (o:=0) I M (λj u C=>by rw[DD L];simpa using C) A;simpa using this;simp at f;simp at f;rename_i U q;rw[q]at r;simp only[Rp]at r;obtain⟨b,o,B,O⟩:=r;split at f;rename_i y A;cases f;obtain⟨K,h1,h2⟩:=O.vals;refine⟨rfl,?_⟩;rw[B];simp only[Instr.loadAt,Instr.sureAddr];have:=aC5 (P:=P) (w:=w) (φ:=φ) (n:=T.length) (b:=b) (o:=o) I (cK.to h1) (λj u C=>Tf hI (h2 j u C)) A;simpa using this;simp at f;rename_i i k j H q;rw[q]at r;simp only[Rp]at r;obtain⟨_,g,l,c,z,B⟩:=r;split at f;rename_i V W b J;split at f;rename_i N;subst N;split at f;rename_i e C;split at f;rename_i y A;cases f;obtain⟨S,X,K,d,h1,h2⟩:=QW hI J C;rw[z]at d;injection d with d _ _;cases d;refine⟨rfl,?_⟩;rw[B];simp only[Instr.loadAt,Instr.sureAddr];exact aC5 (P:=P) (w:=w) (φ:=φ) (n:=T.length) (b:=g) (o:=j*k) I h1 h2 A;simp at f;simp at f;simp at f;simp at f;simp at f
end
section
variable{P:Program}{G:L_}{h:GH}{φ:Nat->Value}{T:aK}{w:World}{s:List (Nat×AV)}{a:Act}
def qM{t:TypeId}{n:Nat}(e:oZ P t=some n):(Go.sizeOf t).run P w=.ok n w:=by
 unfold oZ at e
 cases a:P.info? t with
 |none=>simp[a]at e|some i=>simp[a]at e;subst e;simp[Go.sizeOf,typeInfo,a]
def Zl{t:TypeId}{D:Array Field}(E:P.underlying t=some (.struct D)){f:Nat}{B:Field}(H:D[f]?=some B){n:Nat}(F:oZ P B.type=some n)(h0:n≠0)
 (K:tU G h) (J:uN h φ T.length s a) {p:Operand} {x:AV} {T':aK} (d:cE T (dW G s) (.fad p B.offset)=some (x,T')):
 T'=T/\∃v,(Instr.fieldAt t (a.eval p) f).run P w=.ok v w/\Rp h φ T.length x v:=by
 have m:=dN K J p;have q:∀b o,(Instr.fieldAt t (.pointer (some ⟨b,o,none⟩)) f).run P w=.ok (.pointer (some ⟨b,o+B.offset,none⟩)) w:=by intro b o;simp[Instr.fieldAt,run_underlying E,H,Instr.sureAddr,fieldPlace,qM F,h0,iG]
 simp only[cE]at d;split at d;rename_i i u e;rw[e]at m;simp only[Rp]at m;obtain⟨C,g,r,y⟩:=m;cases d;rw[y];exact⟨rfl,_,q g u,by simp only[Rp];exact⟨C,g,r,rfl⟩⟩;rename_i i k j u e;rw[e]at m;simp only[Rp]at m;obtain⟨C,g,l,c,r,y⟩:=m;cases d;rw[y];exact⟨rfl,_,q g _,by simp only[Rp];exact⟨C,g,l,c,r,by rw[sY]⟩⟩;rename_i L e;rw[e]at m;simp only[Rp]at m;obtain⟨b,o,y,I⟩:=m;cases d;rw[y];exact⟨rfl,_,q b o,by simp only[Rp];exact⟨b,_,rfl,I.drop _⟩⟩;simp at d
def Mv{t:TypeId}{m:Option Nat}(d:GY P t=some m){us:Array Value}{cs:O_}{n:Nat}(e:cC h φ n cs us.toList){off:Nat}{x:AV}(c:Mo cs off m=some x):
 ∃v,(part t us off).run P w=.ok v w/\Rp h φ n x v:=by
 have b:=YS e c;have a:=Fu (w:=w) d
 cases m with
 |none=>
  obtain⟨u,h1,h2⟩:=b;refine⟨u,?_,h2⟩;have:us[off]?=some u:=by simpa using h1
  simp[part,a.1,this]
 |some k=>
  obtain⟨h1,h2⟩:=b;refine⟨_,?_,h2⟩;simp only[part,Sem.run_bind,a.1,a.2,Result.andThen_ok,if_true,Sem.run_pure];congr 2;apply EY.1;simp[Array.toList_extract,List.extract]
def Zm {t:TypeId} {C:Array Field} (z:P.underlying t=some (.struct C)) {f:Nat} {o:Field} (B:C[f]?=some o) {m:Option Nat} (A:GY P o.type=some m)
 (E:tU G h) (D:uN h φ T.length s a) {p:Operand} {x:AV} {T':aK} (b:cE T (dW G s) (.fld p o.offset m)=some (x,T')):
 T'=T/\∃v,(Instr.field t (a.eval p) f).run P w=.ok v w/\Rp h φ T.length x v:=by
 have e:=dN E D p;simp only[cE]at b;split at b;rename_i F d;rw[d]at e;simp only[Rp]at e;obtain⟨g,k,l⟩:=e;split at b;rename_i y j;cases b;obtain⟨v,h1,h2⟩:=Mv (P:=P) (w:=w) A l j;rw[k];exact⟨rfl,v,by simp[Instr.field,run_underlying z,B,asAgg,h1],h2⟩;simp at b;rename_i g d;rw[d]at e;simp only[Rp]at e;split at b;rename_i y j;cases b;have l:cC h φ T.length (g.toList.map .v) g.toList:=cC.mk s_ λi c u n k=>by rw[gE,k]at n;simp at n;subst n;simp[Rp]
 obtain⟨v,h1,h2⟩:=Mv (P:=P) (w:=w) A l j;rw[e];exact⟨rfl,v,by simp[Instr.field,run_underlying z,B,asAgg,h1],h2⟩;simp at b;simp at b
def Zn {t e:TypeId} (O:P.underlying t=some (.slice e)) {k:Nat} (R:oZ P e=some k)
 (J:tU G h) (hI:Inv h φ w T) (I:uN h φ T.length s a) {p q:Operand} {x:AV} {T':aK} (d:cE T (dW G s) (.iad p q k)=some (x,T')):
 T'=T/\∃v,(Instr.indexAt t (a.eval p) (a.eval q)).run P w=.ok v w/\Rp h φ T.length x v:=by
 have r:=dN J I p;have z:∀b o u H kd(i:Int),0<=i->i.toNat<u->(Instr.indexAt t (.slice (some ⟨b,o,none⟩) u H) (.int kd i)).run P w=.ok (.pointer (some ⟨b,o+i.toNat*k,none⟩)) w:=by
  intro b o u H kd i h0 X;have:0<=i/\i<u:=⟨h0,o_⟩
  simp[Instr.indexAt,run_underlying O,asIntOf,this,qM R,iG]
 simp only[cE]at d;split at d;rename_i N D kd i n j;rw[n]at r;simp only[Rp,oB]at r;obtain⟨A,c,K,h1,h2,h3⟩:=r;split at d;rename_i C;obtain⟨rfl,h0⟩:=C;split at d;rename_i Y B;cases d;have f:i.toNat<D.length:=by rcases eD i.toNat D.length with M|M;exact M;simp[sX M]at B
 rcases h3 with rfl|⟨b,o,rfl,U⟩
 simp at B;rw[K,lW J I j];refine⟨rfl,_,z b o _ _ _ i h0 f,?_⟩;simp only[Rp];exact⟨b,_,rfl,(U.get B).2⟩;simp at d;simp at d;rename_i i0 kd i n j;rw[n]at r;simp only[Rp]at r;split at d;rename_i N D b S;split at d;rename_i C;obtain⟨rfl,h0,f⟩:=C;cases d;have B:D[i.toNat]?=some D[i.toNat]:=jN f;obtain⟨g,c,W,y,_,_⟩:=QW hI S B;rw[r.2.1,y,lW J I j];refine⟨rfl,_,z g 0 _ _ _ i h0 f,?_⟩;simp only[Rp];exact⟨r.1,g,_,c+1,y,s_⟩;simp at d;simp at d;rename_i i0 N lo m kd i n j;rw[n]at r;simp only[Rp]at r;split at d;rename_i C;obtain⟨rfl,h0,f⟩:=C;cases d;obtain⟨L,A,c,K,_,_,h3⟩:=r;rcases h3 with rfl|⟨g,l,V,y,rfl,Q⟩
 omega;rw[K,lW J I j];refine⟨rfl,_,z g _ _ _ _ i h0 f,?_⟩;simp only[Rp];exact⟨L,g,l,V,y,by rw[aGg,mG]⟩;simp at d;simp at d
def Vx{t e:TypeId}{u:Nat}(I:P.underlying t=some (.array u e)){k:Nat}(J:oZ P e=some k)
 (E:tU G h) (D:uN h φ T.length s a) {p q:Operand} {x:AV} {T':aK} (d:cE T (dW G s) (.iadA p q u k)=some (x,T')):
 T'=T/\∃v,(Instr.indexAt t (a.eval p) (a.eval q)).run P w=.ok v w/\Rp h φ T.length x v:=by
 have n:=dN E D p;have r:∀b o kd(i:Int),0<=i/\i<u->(Instr.indexAt t (.pointer (some ⟨b,o,none⟩)) (.int kd i)).run P w=.ok (.pointer (some ⟨b,o+i.toNat*k,none⟩)) w:=by intro b o kd i z;simp[Instr.indexAt,run_underlying I,asIntOf,Instr.sureAddr,z,qM J,iG]
 simp only[cE]at d;split at d;rename_i j o kd i m f;rw[m]at n;simp only[Rp]at n;obtain⟨F,g,y,A⟩:=n;split at d;rename_i z;cases d;rw[A,lW E D f];exact⟨rfl,_,r g o _ i z,by simp only[Rp];exact⟨F,g,y,rfl⟩⟩;simp at d;rename_i L kd i m f;rw[m]at n;simp only[Rp]at n;obtain⟨b,o,A,H⟩:=n;split at d;rename_i z;cases d;rw[A,lW E D f];exact⟨rfl,_,r b o _ i z,by simp only[Rp];exact⟨b,_,rfl,H.drop _⟩⟩;simp at d;rename_i b K j o kd i m f;rw[m]at n;simp only[Rp]at n;obtain⟨F,g,l,c,y,A⟩:=n;split at d;rename_i z;cases d;rw[A,lW E D f];exact⟨rfl,_,r g _ _ i z,by simp only[Rp];exact⟨F,g,l,c,y,by rw[sY]⟩⟩;simp at d;simp at d
def Zo {t:TypeId} (n:P.underlying t=some .string)
 (m:tU G h) (l:uN h φ T.length s a) {p q:Operand} {x:AV} {T':aK} (c:cE T (dW G s) (.ixS p q)=some (x,T')):
 T'=T/\∃v,(Instr.index t (a.eval p) (a.eval q)).run P w=.ok v w/\Rp h φ T.length x v:=by
 simp only[cE]at c;split at c;rename_i e kd i j f;split at c;rename_i h0;split at c;rename_i b k;cases c;rw[lW m l j,lW m l f];refine⟨rfl,.int .u8 b.toNat,?_,z_⟩;have:e[i.toNat]?=some b:=by
  have d:i.toNat<e.data.size:=by rcases eD i.toNat e.data.size with g|g;exact g;simp[Hz g]at k
  rw[Ri d]at k;rw[getElem?_pos e i.toNat d];exact k
 simp[Instr.index,run_underlying n,asIntOf,h0,this];simp at c;simp at c;simp at c
def Vy{t ty:TypeId}(f:P.underlying t=some .string)
 (i:tU G h) (g:uN h φ T.length s a) {p:Operand} {x:AV} {T':aK} {ts:Array TypeId} (c:ts[0]?=some t) (b:cE T (dW G s) (.lenS p)=some (x,T')):
 T'=T/\∃v,(Builtin.len_ ts ty #[a.eval p]).run P w=.ok v w/\Rp h φ T.length x v:=by
 simp only[cE]at b;split at b;rename_i e d;cases b;rw[lW i g d];exact⟨rfl,goInt e.size,by simp[Builtin.len_,c,run_underlying f],ku⟩;simp at b
def Vz{t e ty:TypeId}(C:P.underlying t=some (.slice e))
 (B:tU G h) (hI:Inv h φ w T) (z:uN h φ T.length s a) {p:Operand} {x:AV} {T':aK} {ts:Array TypeId} (y:ts[0]?=some t) (d:cE T (dW G s) (.lenL p)=some (x,T')):
 T'=T/\∃v,(Builtin.len_ ts ty #[a.eval p]).run P w=.ok v w/\Rp h φ T.length x v:=by
 have n:=dN B z p;have j:∀A l c,(Builtin.len_ ts ty #[.slice A l c]).run P w=.ok (goInt l) w:=by intro A l c;simp[Builtin.len_,y,run_underlying C]
 simp only[cE]at d;split at d;rename_i k F f;rw[f]at n;simp only[Rp,oB]at n;obtain⟨A,c,u,_⟩:=n;cases d;rw[u];exact⟨rfl,_,j _ _ _,ku⟩;rename_i i f;rw[f]at n;simp only[Rp]at n;split at d;rename_i k F b D;cases d;rw[n.2.1];obtain⟨_,⟨A,h1⟩|⟨g,c,H,E,r,_⟩⟩:=rK hI D;rw[h1.1,h1.2];exact⟨rfl,_,j _ _ _,ku⟩;rw[r];exact⟨rfl,_,j _ _ _,ku⟩;simp at d;rename_i f;cases d;rw[lW B z f];exact⟨rfl,_,j _ _ _,ku⟩;rename_i i k lo m f;rw[f]at n;simp only[Rp]at n;obtain⟨_,A,c,u,_⟩:=n;cases d;rw[u];exact⟨rfl,_,j _ _ _,ku⟩;simp at d
end
def Ca{h:GH}{φ:Nat->Value}{T:aK}{w:World}(hI:Inv h φ w T){b:Nat}{cs:Array Value}(e:h b=some cs):b<w.heap.size:=by obtain⟨E,c,a⟩:=hI.gh b cs e;grind
def iT{h:GH}{φ:Nat->Value}{n:Nat}{w:World}{i:Nat}{o:AObj}(e:uF h φ n w i o){g:Nat}(y:kI (φ i)=some g):
 g<w.heap.size/\h g=none:=by
 have u:∀{x:Obj},w.heap[g]?=some x->g<w.heap.size:=by grind
 cases o with
 |box z=>
  obtain⟨a,p,E,h1,h2,h3,_⟩:=e;grind[kI,Option.some.injEq]
 |arr k f=>
  obtain⟨_,⟨A,h1⟩|⟨a,c,d,E,h1,h2,_,_,_,h3,_⟩⟩:=e;simp_all[kI];grind[kI,Option.some.injEq]
 |arf k f=>
  obtain⟨_,⟨A,h1⟩|⟨a,c,d,E,h1,h2,_,_,_,h3,_⟩⟩:=e;simp_all[kI];grind[kI,Option.some.injEq]
 |lp r s=>
  obtain⟨a,h1,h2,h3,_⟩:=e;grind[kI,Option.some.injEq]
 |mit m b aAD q=>
  obtain⟨a,t,h1,h2,h3,_⟩:=e;grind[kI,Option.some.injEq]
 |map C v l bs B=>
  obtain⟨a,j,h1,h2,h3,_⟩:=e;grind[kI,Option.some.injEq]
def qN{h h':GH}{φ v:Nat->Value}{n D:Nat}{w w':World}{i:Nat}{o:AObj}(e:uF h φ n w i o)(le:CA h h')(y:n<=D)(a:∀j,j<n->v j=φ j)(q:i<n)
 (u:∀g,kI (φ i)=some g->w'.heap[g]?=w.heap[g]?/\h' g=none):uF h' v D w' i o:=by
 cases o with
 |box L=>
  obtain⟨g,F,E,h1,h2,h3,b⟩:=e;obtain⟨l,x⟩:=u g d9;exact⟨g,F,E,dn,by rw[l];exact h2,x,b.mono le y a⟩
 |arr k H=>
  obtain⟨h0,h1|⟨g,c,t,E,h1,h2,h3,b,l,x,B⟩⟩:=e;exact⟨h0,.inl dn⟩;obtain⟨f,d⟩:=u g d9;exact⟨h0,.inr ⟨g,c,t,E,dn,by rw[f];exact h2,h3,b,l,d,B.mono le⟩⟩
 |arf k H=>
  obtain⟨h0,h1|⟨g,c,t,E,h1,h2,h3,b,l,x,B⟩⟩:=e;exact⟨h0,.inl dn⟩;obtain⟨f,d⟩:=u g d9;exact⟨h0,.inr ⟨g,c,t,E,dn,by rw[f];exact h2,h3,b,l,d,B.mono le y a⟩⟩
 |lp r s=>
  obtain⟨g,h1,h2,h3,b,l⟩:=e;obtain⟨f,d⟩:=u g d9;exact⟨g,dn,by rw[f];exact h2,d,b,λp A=>(l p A).mono le y a⟩
 |mit m z aAD J=>
  obtain⟨g,G,h1,h2,h3,b⟩:=e;obtain⟨f,d⟩:=u g d9;refine⟨g,G,dn,by rw[f];exact h2,d,?_⟩;grind
 |map N K I bs M=>
  obtain⟨g,C,h1,h2,h3,b,l,x⟩:=e;obtain⟨f,d⟩:=u g d9;exact⟨g,C,dn,by rw[f];exact h2,d,b,l,x.mono le y a⟩
def upd(φ:Nat->Value)(n:Nat)(v:Value):Nat->Value:=λi=>if i=n then v else φ i
def gN{φ:Nat->Value}{n i:Nat}{v:Value}(h:i<n):upd φ n v i=φ i:=by grind[upd]
theorem bI{φ:Nat->Value}{n:Nat}{v:Value}:upd φ n v n=v:=by grind[upd]
def kG{T:aK}{o:Option AObj}{i:Nat}{x:AObj}(e:(T++[o])[i]?=some (some x)):(i<T.length/\T[i]?=some (some x))\/(i=T.length/\o=some x):=m_
def oM{T:aK}{o:Option AObj}{i j:Nat}{x:AObj}(e:(T.set j o)[i]?=some (some x)):(i=j/\o=some x)\/(i≠j/\T[i]?=some (some x)):=m_
def tL {h:GH} {φ:Nat->Value} {T:aK} {w w':World} (hI:Inv h φ w T) (r:w'.os=w.os) (p:w'.tape=w.tape) (l:w'.output=w.output) (q:w.heap.size<=w'.heap.size)
 (D:∀b,b<w.heap.size->w'.heap[b]?=w.heap[b]?) {o:AObj} {v:Value} (A:∀g,kI v=some g->w.heap.size<=g) (J:uF h (upd φ T.length v) (T.length+1) w' T.length o)
 (s:w.drawn<=w'.drawn:=by first|exact cN _|exact Kl _|assumption):
 Inv h (upd φ T.length v) w' (T++[some o])/\Evo h φ T w h (upd φ T.length v) (T++[some o]) w':=by
 have B:∀i x,T[i]?=some (some x)->i<T.length:=m_;refine⟨⟨?_,?_,?_⟩,⟨r,p,l,q,λb u _=>D b u,CA.refl h,λ_ _ e=>.inl e,λi d=>gN d,?_,s_,s⟩⟩;intro b H e;obtain⟨E,K,I⟩:=hI.gh b H e;grind;intro i x e;rcases kG e with⟨d,n⟩|⟨rfl,n⟩
 have h1:=hI.obj i x n;rw[dZ];exact qN h1 (CA.refl h) s_ (λj m=>gN m) d λg C=>by obtain⟨h2,h3⟩:=iT h1 C;simp_all
 simp_all;intro i j z y b G F c a;rcases kG G with⟨d,k⟩|⟨rfl,k⟩<;>rcases kG F with⟨m,f⟩|⟨rfl,f⟩
 rw[gN d]at c;rw[gN m]at a;exact hI.dis i j z y b k f c a;rw[gN d]at c;rw[bI]at a;have:=(iT (hI.obj i z k) c).1;have:=A b a;omega;rw[bI]at c;rw[gN m]at a;have:=(iT (hI.obj j y f) a).1;have:=A b c;omega;rfl;intro i x b e t;rcases kG e with⟨d,n⟩|⟨rfl,n⟩
 rw[gN d]at t;grind;grind[bI]
def Fw {h:GH} {φ:Nat->Value} {T:aK} {w w':World} (hI:Inv h φ w T) (n:w'.os=w.os) (f:w'.tape=w.tape) (c:w'.output=w.output) (l:w.heap.size<=w'.heap.size)
 {i:Nat} {o o':AObj} (q:T[i]?=some (some o)) (v:∀b,b<w.heap.size->kI (φ i)≠some b->w'.heap[b]?=w.heap[b]?) (P:uF h φ T.length w' i o')
 (r:w.drawn<=w'.drawn:=by first|exact cN _|exact Kl _|assumption):
 Inv h φ w' (T.set i (some o'))/\Evo h φ T w h φ (T.set i (some o')) w':=by
 have H:i<T.length:=m_;refine⟨⟨?_,?_,?_⟩,⟨n,f,c,l,λb u G=>v b u (G i o q),CA.refl h,λ_ _ e=>.inl e,λ_ _=>rfl,?_,s_,r⟩⟩;intro b M e;obtain⟨E,J,F⟩:=hI.gh b M e;refine⟨E,J,?_⟩;rw[v b (Ca hI e) λa=>?_];exact F;have:=(iT (hI.obj i o q) a).2;simp_all;intro j x e;rw[cL];rcases oM e with⟨rfl,A⟩|⟨p,A⟩
 simp_all;have h1:=hI.obj j x A;have I:j<T.length:=m_;exact qN h1 (CA.refl h) (cN _) (λ_ _=>rfl) I λg B=>by obtain⟨h2,h3⟩:=iT h1 B;exact⟨v g h2 λa=>p (hI.dis j i x o g A q B a),h3⟩
 intro j k O N b L K t s;have d:∀{m:Nat}{x:AObj},(T.set i (some o'))[m]?=some (some x)->∃y,T[m]?=some (some y):=by grind
 obtain⟨y,D⟩:=d L;obtain⟨z,C⟩:=d K;exact hI.dis j k y z b D C t s;grind
def xI{h:GH}{φ:Nat->Value}{T:aK}{w:World}(hI:Inv h φ w T)(i:Nat):Inv h φ w (T.set i none)/\Evo h φ T w h φ (T.set i none) w:=by
 have a:∀{m:Nat}{x:AObj},(T.set i none)[m]?=some (some x)->T[m]?=some (some x):=by grind
 refine⟨⟨hI.gh,?_,?_⟩,⟨rfl,rfl,rfl,cN _,λ_ _ _=>rfl,CA.refl h,λ_ _ e=>.inl e,λ_ _=>rfl,?_,s_,cN _⟩⟩;intro j x e;rw[cL];exact hI.obj j x (a e);intro j k x y b e c;exact hI.dis j k x y b (a e) (a c);grind
section
variable{P:Program}{G:L_}{h:GH}{φ:Nat->Value}{T:aK}{w:World}{s:List (Nat×AV)}{a:Act}
def jD(h:GH)(φ:Nat->Value)(T:aK)(w:World)(c:Result Value)(x:AV)(T':aK):Prop :=
 ∃v b d a,c=.ok v b/\Evo h φ T w d a T' b/\Inv d a b T'/\Rp d a T'.length x v
def kX(w:World)(o:Obj)(b:Nat)(h:b<w.heap.size):(w.alloc o).heap[b]?=w.heap[b]?
 := by rw[World.alloc,Array.getElem?_push,if_neg o_]
def YT(hI:Inv h φ w T){cs:O_}{us:Array Value}(a:cC h φ T.length cs us.toList)(E:TypeId):
 jD h φ T w (.ok (.pointer (some ⟨w.heap.size,0,none⟩)) (w.alloc (.cells us E))) (.ptr T.length 0) (T++[some (.box cs)]):=by
 have c:h w.heap.size=none:=by
  cases e:h w.heap.size with
  |none=>rfl|some cs=>have:=Ca hI e;omega
 have:=tL (w':=w.alloc (.cells us E)) (o:=.box cs) (v:=.pointer (some ⟨w.heap.size,0,none⟩)) hI rfl rfl rfl s_ (λb j=>kX w _ b j)
  (λg f=>by simp only[kI,E_]at f;omega)
  ⟨w.heap.size,us,E,bI,heap_alloc_new w _,c,a.mono (CA.refl h) o_ λi d=>gN d⟩
 refine⟨_,_,h,_,rfl,this.2,this.1,?_⟩;simp only[Rp];exact⟨s_,w.heap.size,bI,rfl⟩
def Zq(i:tU G h)(hI:Inv h φ w T)(g:uN h φ T.length s a){E:TypeId}{p:Operand}{x:AV}{T':aK}(b:cE T (dW G s) (.box p)=some (x,T')):
 jD h φ T w ((Instr.box E (a.eval p)).run P w) x T':=by
 simp only[cE]at b;split at b;rename_i d;cases b;have e:=CZ (dN i g p) (λc f=>oD.1 d c f);have:(Instr.box E (a.eval p)).run P w=.ok (.pointer (some ⟨w.heap.size,0,none⟩)) (w.alloc (.cells (a.eval p).cells E)):=by simp[Instr.box,newVar,newRow]
 rw[this];exact YT hI e E;simp at b
def Mw(h:GH)(φ:Nat->Value)(n:Nat):∀(us:C_),cC h φ n (us.map .v) us|[]=>by simp[cC]|u::us=>by simp only[fG,cC];exact⟨u,us,rfl,z_,Mw h φ n us⟩
def Tg(hI:Inv h φ w T){E:TypeId}{i:TypeInfo}{z:Value}(c:P.info? E=some i)(b:i.zero=some z){ev:Operand->AV}{x:AV}{T':aK}(a:cE T ev (.alloc z.cells.toList)=some (x,T')):
 jD h φ T w ((Instr.alloc E true (.tuple #[])).run P w) x T':=by
 simp only[cE]at a;cases a;have:(Instr.alloc E true (.tuple #[])).run P w=.ok (.pointer (some ⟨w.heap.size,0,none⟩)) (w.alloc (.cells z.cells E)):=by simp[Instr.alloc,zeroValue,typeInfo,c,b,newVar,newRow]
 rw[this];exact YT hI (by simpa using Mw h φ T.length z.cells.toList) E
def aC6(vs:Array Value)(off:Nat)(cs:Array Value)(b:off+vs.size<=cs.size):
 (vs.zipIdx.foldl (λcs(c,j)=>cs.setIfInBounds (off+j) c) cs).toList=cs.toList.take off++vs.toList++cs.toList.drop (off+vs.size):=by
 have a:∀(l:C_)(k:Nat)(cs:Array Value),off+k+l.length<=cs.size ->
  ((l.zipIdx k).foldl (λ(cs:Array Value)(p:Value×Nat)=>cs.setIfInBounds (off+p.2) p.1) cs).toList=cs.toList.take (off+k)++l++cs.toList.drop (off+k+l.length):=by
  intro l
  induction l with
  |nil=>intro k cs _;simp|cons v l ih=>
   intro k cs d;simp only[sE]at d;simp only[List.zipIdx_cons,CW];rw[ih (k+1) _ c_];have:=list_seg_step cs.toList (off+k) v l c_;simpa[Array.toList_setIfInBounds,sY]using this
 have:=a vs.toList 0 cs T_;rw[<-Array.foldl_toList,Array.toList_zipIdx];simpa using this
def Rn(a:Act)(l:List (Nat×Nat×Operand)):List (Nat×Nat×Value):=l.map λp=>(p.1,p.2.1,a.eval p.2.2)
def Zr(a:C_):List (Nat×Nat×Value)->Option C_|[]=>some a|(b,n,x)::r=>if x.cells.size=n/\b+n<=a.length then Zr (a.take b++x.cells.toList++a.drop (b+n)) r else none
def V0(k:tU G h)(j:uN h φ T.length s a):∀(l:List (Nat×Nat×Operand)){b:O_}{us:C_}{cs:O_},cC h φ T.length b us ->
 JY b (l.map λp=>(p.1,p.2.1,dW G s p.2.2))=some cs->∃g,Zr us (Rn a l)=some g/\cC h φ T.length cs g
 |[],b,us,cs,d,e=>by
  simp only[uP,JY,E_]at e;subst e;exact⟨us,rfl,d⟩
 |p::l,b,us,cs,d,e=>by simp only[fG,JY]at e;split at e;rename_i o;have i:=CZ (dN k j p.2.2) (λc f=>oD.1 o.2.2 c f);have n:=i.length;have m:=d.length;simp only[Rn,fG,Zr];rw[if_pos ⟨by simp only[GV]at n;omega,o_⟩];exact V0 k j l (((d.take _).app i).app (d.drop _)) e;simp at e
def Ro{place:Nat->Option (Nat×Nat)}(b:Nat->Nat×Nat):∀(l:List (Nat×Value))(a:Array Value)(vs:C_),
 (∀p∈l,place p.1=some (b p.1))->Zr a.toList (l.map λp=>((b p.1).1,(b p.1).2,p.2))=some vs->Instr.fill place a l=some vs.toArray
 |[],a,vs,_,e=>by
  simp only[uP,Zr,E_]at e;subst e;simp[Instr.fill]
 |(i,v)::l,a,vs,d,e=>by have c:=d (i,v) s_;simp only[fG,Zr]at e;split at e;rename_i f;simp only[GV]at f;simp only[Instr.fill,c];rw[if_neg c_];apply Ro b l _ vs (λp c=>d p (by simp[c]));rw[aC6 _ _ _ o_,f.1];exact e;simp at e
def QX(n:Nat):∀(l:List (Nat×Operand)),Jb n l=l.map λp=>(p.1*n,n,p.2)|[]=>rfl|(i,x)::l=>by simp[Jb,QX n l]
def plB(P:Program)(a:List Field)(i:Nat):Nat×Nat:=match a[i]? with|some f=>(f.offset,(oZ P f.type).getD 0)|none=>(0,0)
def QY {b:List Field}:∀{l:List (Nat×Operand)}{r:List (Nat×Nat×Operand)},Ja P b l=some r ->
 r=(l.map λp=>((plB P b p.1).1,(plB P b p.1).2,p.2))/\∀p∈l,∃f n,b[p.1]?=some f/\oZ P f.type=some n/\plB P b p.1=(f.offset,n)
 |[],r,e=>by simp only[Ja,E_]at e;subst e;simp| (i,x)::l,r,e=>by
  simp only[Ja]at e;split at e;simp at e;rename_i f g;split at e;rename_i n j d h;injection e with e;obtain⟨h1,h2⟩:=QY h;have c:plB P b i=(f.offset,n):=by simp[plB,g,d]
  subst h1;subst e;refine⟨by simp[c],λp a=>?_⟩;rcases cS.1 a with rfl|a;exact⟨f,n,g,d,c⟩;exact h2 p a;simp at e
def Th(a:List Field)(b:∀f∈a,(oZ P f.type).isSome=true):
 (a.mapM λf=>do pure (f.offset,<-Go.sizeOf f.type):Sem (List (Nat×Nat))).run P w=.ok (a.map λf=>(f.offset,(oZ P f.type).getD 0)) w:=by
 induction a with
 |nil=>simp|cons f a ih=>
  obtain⟨n,c⟩:=aBI.1 (b f s_);rw[List.mapM_cons];simp only[Sem.run_bind,qM c,Result.andThen_ok,Sem.run_pure,ih λf d=>b f gf,fG,c,Mi]
def V1 {t:TypeId} {c:Array Field} (u:P.underlying t=some (.struct c)) {i:TypeInfo} (E:P.info? t=some i) {z:Value} (r:i.zero=some z) {b:Array (Nat×Operand)} {l:List (Nat×Nat×Operand)}
 (D:Ja P c.toList b.toList=some l) (j:c.toList.all (λf=>(oZ P f.type).isSome)=true) (I:tU G h) (H:uN h φ T.length s a) {x:AV} {T':aK}
 (e:cE T (dW G s) (.bld z.cells.toList l)=some (x,T')):
 T'=T/\∃v,(Instr.build t (b.map λ(i,x)=>(i,a.eval x))).run P w=.ok v w/\Rp h φ T.length x v:=by
 simp only[cE]at e;split at e;rename_i M m;cases e;obtain⟨o,h1,h2⟩:=V0 I H l (Mw h φ T.length z.cells.toList) m;obtain⟨h3,J⟩:=QY D;have g:=Th (P:=P) (w:=w) c.toList (λf k=>oD.1 j f k);have d:=Ro (place:=λi=>(c.toList.map λf=>(f.offset,(oZ P f.type).getD 0)).toArray[i]?) (plB P c.toList) (b.toList.map λp=>(p.1,a.eval p.2)) z.cells o
  (λp A=>by
   obtain⟨q,y,rfl⟩:=dF.1 A;obtain⟨f,n,k,B,F⟩:=J q y
   simp[k,F,B]) (by rw[<-h1,h3];simp[Rn,rI,Function.comp_def])
 refine⟨rfl,.agg o.toArray,?_,by simp only[Rp];exact⟨_,rfl,d6⟩⟩;have C:(c.mapM λf=>do pure (f.offset,<-Go.sizeOf f.type):Sem (Array (Nat×Nat))).run P w=.ok (c.toList.map λf=>(f.offset,(oZ P f.type).getD 0)).toArray w:=by rw[aBS];simp only[Sem.run_map,g,Result.andThen_ok]
 simp only[Instr.build,Sem.run_bind,zeroValue,typeInfo,run_program,Result.andThen_ok,E,Sem.run_pure,r,run_underlying u,C];simp only[Array.toList_map];rw[d];rfl;simp at e
end
end Hud
