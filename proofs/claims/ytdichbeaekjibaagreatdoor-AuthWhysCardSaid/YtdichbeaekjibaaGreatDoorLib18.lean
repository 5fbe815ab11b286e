import Derived.Test.YtdichbeaekjibaaGreatDoorLib17
set_option linter.all false
set_option maxHeartbeats 40000000
namespace Hud
open Go
def yW(g:GM)(o:OpM):V_:=o.Past.map λx=>(aW g.I x).toNat
structure Acc(g:GM)(o:OpM):Prop where
 check:jB o=0
 twice:¬0<=aW g.I (C7 o)
 full:g.L.length<200
 card:(gM g.Cards o.By).2=true
 sig:BW (gM g.Cards o.By).1.Sign o.B o.SR o.SS=true
 kind:((o.Kind==1)&&decide (0<g.L.length))=false
 there:∀x∈o.Past,0<=aW g.I x
 up:(dV g o).2=yW g o
 order:J0 g o (yW g o)=true
 right:FT g.L o (oL g (yW g o))=true
def Ff{g:GM}{o:OpM}(h:(dV g o).1=0):Acc g o:=by
 have h0:=h;unfold dV at h;split at h;omega;rename_i b;simp only[ne_eq,Decidable.not_not]at b;have l:dV g o=Du g o:=by grind[dV]
 unfold Du at h;split at h;simp at h;rename_i h1;split at h;simp at h;rename_i h2;split at h;simp at h;rename_i h3;split at h;simp at h;rename_i f;split at h;simp at h;rename_i e;have k:Du g o=BA g o:=by rw[Du,if_neg h1,if_neg h2,if_neg h3,if_neg f,if_neg e]
 unfold BA at h;by_cases a:(o.Past.all λx=>decide (0<=aW g.I x))=true;rotate_left;have:Pu g.I o.Past=none:=by rw[Pu,if_neg a]
 rw[this]at h;simp at h;have i:Pu g.I o.Past=some (yW g o):=by rw[Pu,if_pos a];rfl
 have j:BA g o=CN g o (yW g o):=by rw[BA,i]
 rw[i]at h;simp only at h;unfold CN at h;split at h;simp at h;rename_i d;split at h;simp at h;rename_i c;exact⟨b,h1,o_,by simpa using h3,kn,Z_,M_,by rw[l,k,j,CN,if_neg d,if_neg c],by simpa using d,oy⟩
def yE{g:GM}{o:OpM}(a:Acc g o)(h:(dV g o).1=0):(addM g o).1=⟨g.Cards,g.L++[o],g.I++[C7 o],g.Up++[yW g o],(g.In.map λr=>r++[false])++[oL g (yW g o)++[false]]⟩:=by rw[addM,if_neg (by simp[h]),a.up]
structure GM.wf(g:GM):Prop where
 un:g.Up.length=g.L.length
 inn:g.In.length=g.L.length
 i:g.I.length=g.L.length
 up:∀i,∀k∈g.Up.getD i [],k<i
 past:∀i,i<g.L.length->∀k,((g.In.getD i []).getD k false=true)↔RU g.Up (g.Up.getD i []) k
def aIh(cs:List CardM):(⟨cs,[],[],[],[]⟩:GM).wf:=⟨rfl,rfl,rfl,s_,s_⟩
def aE0{g:GM}{o:OpM}(w:g.wf)(a:Acc g o):∀k∈yW g o,k<g.L.length:=by intro k c;obtain⟨x,b,rfl⟩:=dF.1 c;have h1:=AZ g.I x;have h2:=a.there x b;have:=w.i;omega
def RC(l:List Bool)(k:Nat):(l++[false]).getD k false=l.getD k false:=m_
def Ol{α:Type}(l:List α)(x d:α)(k:Nat)(h:k<l.length):(l++[x]).getD k d=l.getD k d:=m_
def D2{α:Type}(l:List α)(x d:α):(l++[x]).getD l.length d=x:=s_
def XO{α:Type}(l:List α)(x d:α)(k:Nat)(h:l.length<k):(l++[x]).getD k d=d:=m_
def aE1{g:GM}(w:g.wf)(p:List Bool)(i:Nat)(h:i<g.L.length)(k:Nat):((((g.In.map λr=>r++[false])++[p]).getD i []).getD k false)=(g.In.getD i []).getD k false:=by
 have a:i<g.In.length:=by rw[w.inn];exact h
 grind
def aIi {g:GM} {o:OpM} (w:g.wf) (h:(dV g o).1=0):(addM g o).1.wf:=by
 have a:=Ff h;have c:=aE0 w a;rw[yE a h];have f:∀i,i<g.L.length->(g.Up++[yW g o]).getD i []=g.Up.getD i []:=λi d=>Ol _ _ _ _ (by rw[w.un];exact d);have e:(g.Up++[yW g o]).getD g.L.length []=yW g o:=by rw[<-w.un];exact D2 _ _ _
 refine⟨by simp[w.un],by simp[w.inn],by simp[w.i],?_,?_⟩;intro i k b;rcases aGJ i g.L.length with h1|h1|h1;rw[f i h1]at b;exact w.up i k b;rw[h1,e]at b;rw[h1];exact c k b;rw[XO _ _ _ _ (by rw[w.un];exact h1)]at b;simp at b;intro i d k;simp only[dZ,GT]at d;rcases eD i g.L.length with h1|h1;rw[f i h1,aE1 w _ i h1 k,RU.more (λk b=>by rw[w.un];have:=w.up i k b;omega) w.up];exact w.past i h1 k;obtain rfl:i=g.L.length:=o_;rw[e,RU.more (λk b=>by rw[w.un];exact c k b) w.up,<-Ok g _ c w.up];have:((g.In.map λr=>r++[false])++[oL g (yW g o)++[false]]).getD g.L.length []=oL g (yW g o)++[false]:=by
  have h2:g.L.length=(g.In.map λr=>r++[false]).length:=by simp[w.inn]
  rw[h2];exact D2 _ _ _
 rw[this,RC]
structure Sim(p:PGM)(g:GM):Prop where
 c:∀d,gM p.cards d=gM g.Cards d
 l:p.nodes.map (·.o)=g.L
 i:p.I=g.I
 w:∀i,i<g.L.length->∀k,k<256->qK (p.nodes.getD i XD).W k=(g.In.getD i []).getD k false
def aFZ{cs:List CardM}(a:cardsOk cs):Sim ⟨uE cs,[]⟩ ⟨cs,[],[],[],[]⟩:=⟨λd=>XK a d,rfl,rfl,s_⟩
def aCZ(a:List V_):Nat->B_|0=>[]|i+1=>aCZ a i++[(a.getD i []).foldl (λm k=>max m (1+(aCZ a i).getD k 0)) 1]
def aKm(a:List V_):∀i,(aCZ a i).length=i|0=>rfl|i+1=>by simp[aCZ,aKm a i]
def aMD(f:Nat->Int)(b:Int):∀(l:V_)(m:Int),(∀k∈l,f k<=b)->m<=b->m<=l.foldl (λm k=>max m (f k)) m/\l.foldl (λm k=>max m (f k)) m<=b|[],m,_,a=>⟨Int.le_refl _,a⟩|k::l,m,h,a=>by have:=aMD f b l (max m (f k)) (λx c=>h x (by simp[c])) (Int.max_le.2 ⟨a,h k s_⟩);exact⟨Int.le_trans (Int.le_max_left _ _) this.1,this.2⟩
def aOe (a:List V_):∀i,∀x∈aCZ a i,1<=x/\x<=i
 |0,x,h=>by simp[aCZ]at h
 | i+1,x,h=>by
  simp only[aCZ,cG,cA]at h;rcases h with h|rfl;have:=aOe a i x h;omega
  have:=aMD (λk=>1+(aCZ a i).getD k 0) (((i+1:Nat)):Int) (a.getD i []) 1 (λk _=>by
   rw[rH];rcases eD k (aCZ a i).length with h|h;rw[jN h];have:=aOe a i _ (eQ h);simp only[Mi];omega
   rw[sX h];simp only[Option.getD_none];omega) (by omega)
  exact this
def aOf(a:List V_)(i k:Nat):0<=(aCZ a i).getD k 0/\(aCZ a i).getD k 0<=i:=by rw[rH];rcases eD k (aCZ a i).length with h|h;rw[jN h];have:=aOe a i _ (eQ h);simp only[Mi];omega;rw[sX h];simp only[Option.getD_none];omega
abbrev ivs(l:List Int):List (List AV):=l.map λx=>[iv x]
section
variable{G:L_}
def aPN(g:GM)(j:g.ok)(v:∀i,∀k∈g.Up.getD i [],k<i):aA PQ G aK2 [.ag g.A] [] λr T=>r=.ls 1 (ivs (aCZ g.Up g.L.length))/\T=[]:=by
 refine aA.fin (p:=λr T=>r=.own 0/\T=[some (.arr 1 (ivs (aCZ g.Up g.L.length)))]) (aC aMk ?_) [0] ?_;rotate_left;rintro r J ⟨rfl,rfl⟩;simp only[go_sem,gQ];have H:=j.n;simp only[go_sem];refine aQ g.L.length (λi=>⟨0,[(1,.ptr 0 0),(3,.own 1),(4,iv i)],[some (.box g.A),some (.arr 1 (ivs (aCZ g.Up i)))]⟩) (λ_=>True) ?_ trivial ?_ ?_;simp only[go_sem];rfl;intro i C _;have t:=fQ i o_;have w:=j.un;have s:(g.Up.map λl=>[Sa l])[i]?=some [Sa (g.Up.getD i [])]:=w_;have c:g.Up.getD i []∈g.Up:=by rw[rH,jN (o_:i<g.Up.length)];exact eQ _
 have B:=(j.up _ c).1;have h:=v i;have o:=aKm g.Up i;have q:=aOf g.Up i;have e:∀k,(List.foldl (λm k=>max m (1+(aCZ g.Up i).getD k 0)) 1 ((g.Up.getD i []).take k):Int)<=i+1/\1<=(List.foldl (λm k=>max m (1+(aCZ g.Up i).getD k 0)) 1 ((g.Up.getD i []).take k):Int):=λk=>by have:=aMD (λk=>1+(aCZ g.Up i).getD k 0) ((i:Int)+1) ((g.Up.getD i []).take k) 1 (λx _=>by have:=q x;show 1+(aCZ g.Up i).getD x 0<=_;omega) o_;exact⟨this.2,this.1⟩
 rw[aCZ];generalize g.Up.getD i []=a at *
 generalize aCZ g.Up i=b at *
 simp only[go_sem,aP,aT C];refine aQ a.length (λk=>⟨0,[(1,.ptr 0 0),(3,.own 1),(4,iv i),(5,iv ((a.take k).foldl (λm k=>max m (1+b.getD k 0)) 1)),(6,iv k)],[some (.box g.A),some (.arr 1 (ivs b))]⟩) (λ_=>True) ?_ trivial ?_ ?_;simp only[go_sem,uQ,Kk];intro k f _;have u:=fQ k o_;have E:(a.map λn:Nat=>[iv (n:Int)])[k]?=some [iv (a[k]:Int)]:=aO _ a k f;have d:a[k]<b.length:=by rw[o];exact h _ (eQ f)
 have D:(ivs b)[a[k]]?=some [iv (b.getD a[k] 0)]:=by rw[gE,rH,jN d];rfl
 have I:=e k;have F:=q a[k];rw[GO _ _ a k f];generalize(a.take k).foldl (λm k=>max m (1+b.getD k 0)) 1=m at *
 generalize b.getD a[k] 0=y at *
 have w1:IntKind.i64.wrap (1+y)=1+y:=aJ o_ o_;generalize a[k]=z at *
 simp only[go_sem,aP,s,aT f,E,d,D,w1,u,mx];intro _;rw[dE];have:=(e a.length)
 simp only[go_sem,aP,s,aS (bP _),t,bZ,o,(g_:i+1<=maxLen),(o_:(i+1)*8<=140737488355328)];intro _;simp only[go_sem,aP,aS (bP _)]
def aNU(g:GM)(x:Id)(a:g.ok):aA PQ G aJf [.ag g.A,.ag x.A] [] λr T=>r=iv (aW g.I x)/\T=[]:=by refine aC aMA ?_;simp only[go_sem];apply cX (Dt g x a);simp only[go_sem]
def ahM(a:B_)(I:D_)(i k:Nat):Bool:=if a.getD i 0=a.getD k 0 then(I.getD i default).lt (I.getD k default) else decide (a.getD i 0<a.getD k 0)
def aQh(g:GM)(c:B_)(j:g.ok)(o:c.length=g.L.length)(i k:Nat)(q:i<g.L.length)(p:k<g.L.length):aA PQ G aK6 [.ag g.A,.ls 1 (ivs c),iv i,iv k] [] λr T=>r=.v (.bool (ahM c g.I i k))/\T=[]:=by
 apply aC aMB;have f:(ivs c)[i]?=some [iv (c.getD i 0)]:=w_;have e:(ivs c)[k]?=some [iv (c.getD k 0)]:=w_;have hI:=j.i;have n:(g.I.map Id.A)[i]?=some (g.I.getD i default).A:=w_;have m:(g.I.map Id.A)[k]?=some (g.I.getD k default).A:=w_;unfold ahM;generalize c.getD i 0=a at *
 generalize c.getD k 0=b at *
 generalize g.I.getD i default=x at *
 generalize g.I.getD k default=y at *
 simp only[go_sem,f,e];refine aL (λh=>?_) (λh=>?_);have d:¬a=b:=y_;simp only[go_sem,f,e,if_neg d];have l:a=b:=y_;simp only[go_sem,n,m];apply cX (OD x y);simp only[go_sem,if_pos l]
end
end Hud
namespace Hud
set_option maxRecDepth 99999
open Go
def Lf:=eVf (cF zT [(0,none,1)])
def aMn:=eVf (cF aEV [(4,none,3),(5,none,3)])
def aOg:=eVf (cF aKJ [])
def aAD:=eVf (cF aMw [(8,none,1)])
def aNL:=eVf (cF aFd [(4,none,1),(5,none,1)])
def aM7:=eVf (cF aBF [(9,none,1)])
def aOh:=eVf (cF aM3 [])
def aOy:=eVf (cF aBD [])
def aNP:=eVf (cF aJ5 [])
def aME:=eVf (cF aGT [])
def aM8:=eVf (cF aJu [])
def aMp:=eVf (cF aBE [])
def aLS:=eVf (cF aJ6 [])
def aMr:=eVf (cF aK3 [(2,none,1),(3,none,1),(6,none,1)])
def aMF:=eVf (cF aH3 [])
def aNQ:=eVf (cF aJa [(6,none,11),(7,none,11)])
def aMG:=eVf (cF aET [])
def aLT:=eVf (cF aJI [])
def aNR:=eVf (cF aIX [])
def aMH:=eVf (cF aGg [])
def aEQ:=eVf (cF aJ3 [])
def aKo:=eVf (cF aJe [])
def aOi:=eVf (cF aM4 [])
def aMt:=eVf (cF aID [])
def aOj:=eVf (cF aM5 [(10,none,1)])
def aMu:=eVf (cF aIz [])
def Lg:=eVf (cF DS [])
end Hud
namespace Hud
set_option maxRecDepth 99999
open Go
def aLK:=eVf (cF aJH [])
def aLU:=eVf (cF aK5 [])
def Om:=eVf (cF Ew [])
def Oo:=eVf (cF xO [(5,some 2,35)])
def Lh:=eVf (cF zQ [(2,none,1),(3,none,1)])
def Oq:=eVf (cF Ey [])
def aIE:=eVf (cF aKI [])
def P3:=eVf (cF Al [])
def P4:=eVf (cF HM [])
def Li:=eVf (cF rN [(7,none,3),(1000000,some 7,0)])
def P5:=eVf (cF HO [])
def P6:=eVf (cF DO [(67,none,1000)])
def Lj:=eVf (cF zV [])
def Lk:=eVf (cF zW [])
def P7:=eVf (cF Ao [(2,none,4),(3,none,4)])
end Hud
namespace Hud
open Go
variable{G:L_}
def aOz(cs:List CardM)(d:Int):Int:=if(gM cs d).2 then(gM cs d).1.Member else 0
def inG(g:GM)(x y:Nat):Bool:=(g.In.getD x []).getD y false
def aPf(cs:List CardM)(a b:OpM):Bool :=
 if a.Kind==3&&a.Device !=0 then b.By==a.Device else if a.Kind==3 then aOz cs b.By==a.Member
 else if a.Kind==13 then b.By==a.Old&&(b.Kind !=12||!decide (b.Of=a.Of)) else a.Kind==12&&(b.Kind==13&&(decide (a.Of=b.Of)&&decide (a.At<=b.At)))
def aE4(g:GM)(x y:Nat):Bool:=!(decide (x=y)||(inG g x y||inG g y x))&&aPf g.Cards (g.L.getD x default) (g.L.getD y default)
def XP(g:GM)(d:Int)(a:g.ok):aA PQ G DS [.ag g.A,iv d] [] λr T=>r=iv (aOz g.Cards d)/\T=[]:=by
 apply aC Lg;have e:=Uv (G:=G) g d a;unfold aOz;generalize gM g.Cards d=c at *
 obtain⟨c,b⟩:=c;simp only[go_sem];apply aU (aB _) rfl e (by simp only[CardM.A_def];rfl);cases b;simp only[go_sem,CardM.A_def];simp only[go_sem,CardM.A_def]
def aM9 (g:GM) (t:g.ok) (x y:Nat) (C:x<g.L.length) (B:y<g.L.length):aA PQ G aGg [.ag g.A,iv x,iv y] [] λr T=>r=.v (.bool (aE4 g x y))/\T=[]:=by
 apply aC aMH;have H:=t.inn;have n:(g.L.map OpM.A)[x]?=some (g.L.getD x default).A:=by rw[gE,rH,jN C];rfl
 have m:(g.L.map OpM.A)[y]?=some (g.L.getD y default).A:=by rw[gE,rH,jN B];rfl
 have D:=XP (G:=G) g (g.L.getD y default).By t;have f:(g.In.map λl=>[wI l])[x]?=some [wI (g.In.getD x [])]:=w_;have e:(g.In.map λl=>[wI l])[y]?=some [wI (g.In.getD y [])]:=w_;have F:(g.In.getD x []).length=g.L.length:=t.ins _ (by rw[rH,jN (o_:x<g.In.length)];exact eQ _);have E:(g.In.getD y []).length=g.L.length:=t.ins _ (by rw[rH,jN (o_:y<g.In.length)];exact eQ _);have d:((g.In.getD x []).map λb=>[AV.v (.bool b)])[y]?=some [.v (.bool (inG g x y))]:=by rw[gE,inG,rH (l:=g.In.getD x []),jN o_];rfl
 have c:((g.In.getD y []).map λb=>[AV.v (.bool b)])[x]?=some [.v (.bool (inG g y x))]:=by rw[gE,inG,rH (l:=g.In.getD y []),jN o_];rfl
 have h:((x:Int)==(y:Int))=decide (x=y):=so;unfold aE4 aPf;generalize inG g x y=z at *
 generalize inG g y x=w at *
 generalize g.L.getD x default=a at *
 generalize g.L.getD y default=b at *
 cases o:decide (x=y);cases z;cases w;cases s:a.Kind==3;cases q:a.Kind==13;simp only[go_sem,n,m,f,e,d,c,h,o,s,q,undef];have i:=Id.beq a.Of b.Of;cases j:a.Kind==12;simp only[go_sem,j,undef,lR];cases k:b.Kind==13;simp only[go_sem,j,k,undef,lR,Ea];cases p:decide (a.Of=b.Of);simp only[go_sem,j,k,i,p,undef,lR,Ea];simp only[go_sem,j,k,i,p,undef,mF];simp only[go_sem,n,m,f,e,d,c,h,o,s,q,undef];have i:=Id.beq b.Of a.Of;have u:=Id.beq a.Of b.Of;cases j:b.By==a.Old;simp only[go_sem,j,undef,lR];cases k:b.Kind !=12;cases p:decide (b.Of=a.Of);simp only[go_sem,j,k,i,p,undef,mF];simp only[go_sem,j,k,i,p,undef,mF];simp only[go_sem,j,k,undef,mF];cases q:a.Device !=0;simp only[go_sem,n,m,f,e,d,c,h,o,s,q,undef];apply cX D;simp only[go_sem,undef];simp only[go_sem,n,m,f,e,d,c,h,o,s,q,undef];simp only[go_sem,n,m,f,e,d,c,h,o,undef];simp only[go_sem,n,m,f,e,d,c,h,o,undef];simp only[go_sem,n,m,f,e,d,c,h,o,undef]
def aPg(g:GM)(x y:Id):Bool:=decide (0<=aW g.I x)&&(decide (0<=aW g.I y)&&aE4 g (aW g.I x).toNat (aW g.I y).toNat)
def aPO{cs f:List CardM}(m:∀d,gM cs d=gM f d){a b:OpM}(l:a.Kind=3->a.Device=0->a.Member≠0):Oh cs a b=aPf f a b:=by
 unfold Oh aPf U6 aOz;rw[m];generalize gM f b.By=c;obtain⟨c,h⟩:=c;by_cases g:a.Kind=3;have e:(a.Kind==13)=false:=by rw[g];rfl
 by_cases j:a.Device=0;have:=l g j;cases h;simp[g,j,Ne.symm this];simp[g,j];simp[g,j];by_cases e:a.Kind=13;have k:decide (a.Of=b.Of)=decide (b.Of=a.Of):=by rw[decide_eq_decide];exact eq_comm
 simp only[e,k,bne];cases b.By==a.Old<;>cases b.Kind==12<;>cases decide (b.Of=a.Of)<;>simp;by_cases i:a.Kind=12;simp[i];grind;simp[g,e,i]
def aPP(L:List OpM):Prop:=∀o∈L,o.Kind=3->o.Device=0->o.Member≠0
def aMI{p:PGM}{g:GM}(s:Sim p g){x:Id}{j:Nat}(h:p.I.findIdx? (λy=>decide (y=x))=some j)(b:j<g.L.length):(p.nd x).o=g.L.getD j default/\∀k,k<256->qK (p.nd x).W k=inG g j k:=by
 rw[RA h];have c:p.nodes.length=g.L.length:=by rw[<-s.l,aP]
 refine⟨?_,λk a=>s.w j b k a⟩;rw[<-s.l,rH,rH,gE,jN o_];rfl
def aOk{p:PGM}{g:GM}(s:Sim p g)(e:g.L.length<=200){x y:Id}{j k:Nat}(c:p.I.findIdx? (λz=>decide (z=x))=some j)(b:p.I.findIdx? (λz=>decide (z=y))=some k)(f:j<g.L.length)(d:k<g.L.length)(mx:x∈p.I)(a:y∈p.I):oH p x y=inG g k j:=by unfold oH;rw[decide_eq_true mx,decide_eq_true a,show p.at x=j by simp[PGM.at,c],(aMI s b d).2 j o_];rfl
def aOA {p:PGM} {g:GM} (s:Sim p g) (q:g.L.length<=200) (r:aPP g.L) (x y:Id):lA p x y=aPg g x y:=by
 have w:p.I.length=g.L.length:=by rw[PGM.I,<-s.l,aP,aP]
 unfold lA aPg aW qX;rw[<-s.i];by_cases mx:x∈p.I;by_cases a:y∈p.I;obtain⟨j,f,v,_,o⟩:=dG mx;obtain⟨k,b,u,_,m⟩:=dG a;have d:j<g.L.length:=o_;have n:k<g.L.length:=o_;rw[f,b,decide_eq_true mx,decide_eq_true a,aOk s q f b d n mx a,aOk s q b f n d a mx,(aMI s f d).1,(aMI s b n).1];have h:decide (x=y)=decide (j=k):=by rw[decide_eq_decide];constructor;rintro rfl;rw[f]at b;exact Option.some.inj b;rintro rfl;rw[<-o,<-m]
 rw[aPO s.c (λh3 t=>r _ (by rw[rH,jN d];exact eQ d) h3 t)];simp only[h,aE4,nI,Int.natCast_nonneg,decide_true,mF];cases decide (j=k)<;>cases inG g k j<;>cases inG g j k<;>rfl;have e:=eG a;rw[e,decide_eq_false a];simp;have e:=eG mx;rw[e,decide_eq_false mx];simp
abbrev nrs(l:List Nat):List (List AV):=l.map λn:Nat=>[iv (n:Int)]
def aOn(a:B_)(I:D_)(out:V_)(p:Nat):Nat:=(out.takeWhile λq=>ahM a I q p).length
def aOo(a:B_)(I:D_)(out:V_)(p:Nat):V_:=out.take (aOn a I out p)++([p]++out.drop (aOn a I out p))
def aLL(a:B_)(I:D_)(ps:V_):V_:=ps.foldl (aOo a I) []
def aF0(I l:D_):V_:=l.map λx=>(aW I x).toNat
def aP3{f:Nat->Bool}:∀{out:V_}{k:Nat},k<=out.length->(∀j,j<k->f (out.getD j 0)=true)->(k=out.length\/f (out.getD k 0)=false)->(out.takeWhile f).length=k
 |[],k,a,_,_=>by simp at a;simp[a]|x::out,0,_,_,h2=>by
  have:f x=false:=oo;simp[List.takeWhile,this]
 |x::out,k+1,a,h1,h2=>by
  have h0:f x=true:=by simpa using h1 0 o_
  rw[List.takeWhile_cons_of_pos h0,sE,aP3 (out:=out) (k:=k) M_ (λj b=>by simpa using h1 (j+1) o_) oo]
def aPh(a:B_)(I:D_)(out:V_)(p:Nat):aOn a I out p<=out.length:=(List.takeWhile_sublist _).length_le
def aPQ(a:B_)(I:D_)(out:V_)(p:Nat):(aOo a I out p).length=out.length+1:=by have:=aPh a I out p;simp only[aOo,dZ,eC,vY,sE,gQ];omega
def aPp(a:B_)(I:D_)(out:V_)(p:Nat):(aOo a I out p).Perm (p::out):=by show(out.take (aOn a I out p)++p::out.drop (aOn a I out p)).Perm (p::out);apply YJ.trans;rw[LC]
def aMa(a:B_)(I:D_):∀(ps out:V_),(ps.foldl (aOo a I) out).Perm (ps++out)|[],out=>.refl _|p::ps,out=>by refine(aMa a I ps _).trans (((aPp a I out p).append_left ps).trans ?_);exact YJ
def aP4 (g:GM) (l:D_) (w:g.ok) (Y:∀i,∀k∈g.Up.getD i [],k<i) (hl:l.length<=1000) (R:∀x∈l,0<=aW g.I x):
 aA PQ G aES [.ag g.A,ids l] [] λr T=>r=ids ((aLL (aCZ g.Up g.L.length) g.I (aF0 g.I l)).map λi=>g.I.getD i default)/\T=[]:=by
 refine aA.fin (p:=λr T=>r=.own 0/\T=[some (.arr 3 (((aLL (aCZ g.Up g.L.length) g.I (aF0 g.I l)).map λi=>g.I.getD i default).map Id.A))]) (aC aMz ?_) [0] ?_;rotate_left;rintro r T' ⟨rfl,rfl⟩;simp only[go_sem,gQ,ids,rI];have hn:=w.n;have hI:=w.i;have J:=aKm g.Up g.L.length;have E:∀p∈aF0 g.I l,p<g.L.length:=λp H=>by obtain⟨x,y,rfl⟩:=dF.1 H;have:=AZ g.I x;have:=R x y;omega
 have D:(aF0 g.I l).length=l.length:=by simp[aF0]
 simp only[go_sem];apply cX (aPN g w Y);generalize S:aCZ g.Up g.L.length=a at *
 have Q:∀i,((aF0 g.I l).take i).foldl (aOo a g.I) []=aLL a g.I ((aF0 g.I l).take i):=λi=>rfl;have t:∀i,(aLL a g.I ((aF0 g.I l).take i)).Perm ((aF0 g.I l).take i):=λi=>by have:=aMa a g.I ((aF0 g.I l).take i) [];rwa[jO]at this
 have d:∀i,i<=l.length->(aLL a g.I ((aF0 g.I l).take i)).length=i:=λi e=>by rw[(t i).length_eq,eC,D];omega
 have b:∀i,∀p∈aLL a g.I ((aF0 g.I l).take i),p<g.L.length:=λi p H=>E p (C8 ((t i).mem_iff.1 H));simp only[go_sem];refine jG (λs=>s=⟨0,[(2,.ptr 0 0),(6,.own 1)],[some (.box g.A),some (.arr 1 (nrs (aLL a g.I (aF0 g.I l))))]⟩) ?_ ?_;refine aQ l.length (λi=>⟨0,[(1,ids l),(2,.ptr 0 0),(5,.ls 1 (ivs a)),(6,.own 1),(7,iv i)],[some (.box g.A),some (.arr 1 (nrs (aLL a g.I ((aF0 g.I l).take i))))]⟩) (λ_=>True) ?_ trivial ?_ ?_;simp only[go_sem,uQ];rfl;intro i e _;have B:=fQ i o_;have g0:(l.map Id.A)[i]?=some l[i].A:=aO _ l i e;have Z:=R l[i] (eQ e);have P:=AZ g.I l[i];have v:aW g.I l[i]=(((aW g.I l[i]).toNat:Nat):Int):=o_;have m:aLL a g.I ((aF0 g.I l).take (i+1))=aOo a g.I (aLL a g.I ((aF0 g.I l).take i)) (aW g.I l[i]).toNat:=by
  have K:i<(aF0 g.I l).length:=o_;unfold aLL;rw[GO _ _ (aF0 g.I l) i K];simp[aF0]
 have d:=d i o_;have b:=b i;rw[m];generalize aLL a g.I ((aF0 g.I l).take i)=out at *
 have o:=aNU (G:=G) g l[i] w;rw[v]at o;generalize(aW g.I l[i]).toNat=p at *
 generalize l[i]=x at *
 simp only[go_sem,aP,aT e,g0];apply cX o;have u:decide ((p:Int)<0)=false:=decide_eq_false o_;simp only[go_sem,u];have f:=aPh a g.I out p;refine jG (λs=>s=⟨0,[(1,ids l),(2,.ptr 0 0),(5,.ls 1 (ivs a)),(6,.own 1),(7,iv i),(8,iv p),(9,iv (aOn a g.I out p))],[some (.box g.A),some (.arr 1 (nrs out))]⟩) ?_ ?_;refine cO (λn s=>∃k:Nat,n=out.length-k/\k<=out.length/\(∀j,j<k->ahM a g.I (out.getD j 0) p=true)/\s=⟨0,[(1,ids l),(2,.ptr 0 0),(5,.ls 1 (ivs a)),(6,.own 1),(7,iv i),(8,iv p),(9,iv k)],[some (.box g.A),some (.arr 1 (nrs out))]⟩) out.length
  ⟨0,rfl,pR _,λj z=>o_,f_⟩ ?_
 rintro n s ⟨k,aa,V,z,rfl⟩;by_cases c:k<out.length;have M:(nrs out)[k]?=some [iv (out.getD k 0:Nat)]:=by rw[gE,rH,jN c];rfl
 have N:out.getD k 0<g.L.length:=by rw[rH,jN c];exact b _ (eQ c)
 have F:p<g.L.length:=o_;have X:=fQ k o_;simp only[go_sem,aP,aT c,c,M];apply cX (aQh g a w J _ p N F);simp only[go_sem];refine aL (λh=>?_) (λh=>?_);simp only[go_sem,X]
 exact⟨out.length-(k+1),o_,k+1,rfl,o_,λj ab=>by
  rcases eD j k with h1|h1;exact z j h1;obtain rfl:j=k:=o_
  exact h,rfl⟩
 simp only[go_sem];rw[show aOn a g.I out p=k from aP3 V z (.inr h)];simp only[go_sem,aP,aS c];rw[show aOn a g.I out p=k from aP3 V z (.inl o_)];rintro s rfl;have U:=aPQ a g.I out p;unfold aOo;generalize aOn a g.I out p=q at *
 simp only[go_sem,aP,eC,vY,dZ,Kj f,f,QO,pQ,pR,(o_:q*8<=140737488355328),(g_:q<=maxLen),(g_:q+1<=maxLen),(o_:(q+1)*8<=140737488355328),
  (o_:q+(out.length-q)=out.length),B,(o_:(q+1+(out.length-q))*8<=140737488355328),(g_:q+1+(out.length-q)<=maxLen),cN,eB,bZ,QN,aC0,fG,uP]
 intro _;rw[sG o_];simp only[go_sem,aP,aS (bP _)];rintro s rfl;have d:=d l.length (cN _);have b:=b l.length;rw[sG o_]at d b;generalize aLL a g.I (aF0 g.I l)=out at *
 simp only[go_sem];refine aQ out.length (λi=>⟨0,[(2,.ptr 0 0),(6,.own 1),(11,.own 2),(12,iv i)],[some (.box g.A),some (.arr 1 (nrs out)),some (.arr 3 (((out.take i).map λi=>g.I.getD i default).map Id.A))]⟩) (λ_=>True) ?_ trivial ?_ ?_;simp only[go_sem,uQ,uP];intro i e _;have B:=fQ i o_;have M:(nrs out)[i]?=some [iv (out[i]:Nat)]:=aO _ out i e;have N:out[i]<g.L.length:=b _ (eQ e);have W:(g.I.map Id.A)[out[i]]?=some (g.I.getD out[i] default).A:=w_;have ac:out[i]<g.I.length:=o_;rw[lB e,bZ,bZ];have C:(out.take i).length=i:=ox;obtain⟨x,y⟩:∃x,x=g.I.getD out[i] default:=⟨_,rfl⟩
 rw[<-y]at W;generalize out[i]=q at *
 generalize out.take i=O at *
 simp only[go_sem,aP,aT e,e,M,W,C,B,(g_:i+1<=maxLen),(o_:(i+1)*24<=140737488355328)];rw[y];intro _;rw[dE];simp only[go_sem,aP,aS (bP _)]
def Hj(I:D_)(l:B_):D_:=(l.take 4).map λn=>I.getD (pX n I.length).toNat default
def qI(g:GM)(l:B_):D_:=if l=[]\/g.L=[] then jI g.I else Fd g (Hj g.I l)
def aE6(I:D_)(l:B_)(i:Nat)(h:i<l.length)(a:i<4):Hj I (l.take (i+1))=Hj I (l.take i)++[I.getD (pX l[i] I.length).toNat default]:=by unfold Hj;rw[Mj,Mj,(o_:min 4 (i+1)=i+1),(o_:min 4 i=i),<-aBV h,bZ];rfl
def Ot(I:D_)(l:B_):(Hj I l).length<=4:=by grind[Hj,List.length_map,List.length_take]
def BJ(n:Int)(m:Int)(a:0<m):0<=pX n m/\pX n m<m:=by unfold pX;exact⟨Int.emod_nonneg _ o_,Int.emod_lt_of_pos _ a⟩
def aB4 (g:GM) (d:g.ok) (l:B_) (J:l.length<=2^63-1) (v:∀n∈l,mZ n):aA PQ G aEU [.ag g.A,rG l] [] λr T=>(r=ids (qI g l)/\T=[]/\(l=[]\/g.L=[]))\/(r=.own 0/\T=[some (.arr 3 ((qI g l).map Id.A))]):=by
 apply aC LJ;have hI:=d.i;by_cases h1:l=[]
 subst h1;simp only[go_sem,gQ,undef];apply cX (JG g d);simp only[go_sem,qI,true_or,true_and];have t:0<l.length:=H3.2 h1;have p:((l.length:Int)==0)=false:=by simpa using h1
 by_cases h2:g.L=[]
 have E:((g.I.length:Int)==0)=true:=by rw[hI,h2];rfl
 have j:((g.L.length:Int)==0)=true:=by rw[h2];rfl
 simp only[go_sem,aP,p,j];apply cX (JG g d);simp only[go_sem,qI,h2,or_true];simp;have w:0<g.L.length:=H3.2 h2;have E:((g.I.length:Int)==0)=false:=u_;have j:((g.L.length:Int)==0)=false:=oo;have D:qI g l=Fd g (Hj g.I l):=by grind[qI]
 rw[D];have H:=d.n;simp only[go_sem,aP,p,j];refine jG (λs=>s=⟨0,[(2,.ptr 0 0),(5,.own 1)],[some (.box g.A),some (.arr 3 ((Hj g.I l).map Id.A))]⟩) ?_ ?_;refine aQ (min l.length 4) (λi=>⟨0,[(1,rG l),(2,.ptr 0 0),(5,.own 1),(6,iv i)],[some (.box g.A),some (.arr 3 ((Hj g.I (l.take i)).map Id.A))]⟩) (λ_=>True) ?_ trivial ?_ ?_;rfl;intro i u _;have a:i<l.length:=o_;have f:i<4:=o_;have q:=fQ i o_;have B:(l.map λn=>[iv n])[i]?=some [iv l[i]]:=aO _ l i a;have c:=v l[i] (eQ a);have F:decide ((i:Int)<4)=true:=decide_eq_true o_;have b:=Ot g.I (l.take i);rw[aE6 g.I l i a f];generalize l[i]=x at *
 generalize Hj g.I (l.take i)=O at *
 have M:=BJ x g.I.length o_;have o:(g.I.map Id.A)[(pX x g.I.length).toNat]?=some (g.I.getD (pX x g.I.length).toNat default).A:=u_;have K:(pX x g.I.length).toNat<g.I.length:=o_;have e:((pX x g.I.length).toNat:Int)=pX x g.I.length:=o_;simp only[go_sem,aP,aT a,F,B];apply cX (Dl x g.I.length c.1 c.2 o_ o_);rw[<-e];generalize(pX x g.I.length).toNat=k at *
 obtain⟨y,m⟩:∃y,y=g.I.getD k default:=⟨_,rfl⟩
 rw[<-m]at o;simp only[go_sem,aP,o,bZ,fG,uP,q,(g_:O.length+1<=maxLen),(o_:(O.length+1)*24<=140737488355328)];rw[m];intro _;rcases eD 4 l.length with z|z;have h:min l.length 4=4:=o_;have C:Hj g.I (l.take 4)=Hj g.I l:=by grind[Hj]
 rw[h,C];simp only[go_sem,aP,show decide ((4:Int)<(l.length:Int))=true from decide_eq_true o_];have h:min l.length 4=l.length:=o_;rw[h,dE];simp only[go_sem,aP,aS (bP _),undef];rintro s rfl;have b:=Ot g.I l;simp only[go_sem];apply cH (aB _) rfl rfl (XG g (Hj g.I l) d o_);rintro r N ⟨rfl,rfl⟩;refine⟨z_,sy,?_⟩;simp only[go_sem];exact .inr trivial
def aE7(g:GM)(c:g.ok)(l:B_)(a:l.length<=2^63-1)(b:∀n∈l,mZ n):aA PQ G aEU [.ag g.A,rG l] [] λr T=>r=ids (qI g l)/\T=[]:=by refine(aB4 g c l a b).fin [0] ?_;rintro r d (⟨rfl,rfl,_⟩|⟨rfl,rfl⟩);simp only[go_sem,gQ,List.getElem?_nil];simp only[go_sem,gQ]
end Hud
