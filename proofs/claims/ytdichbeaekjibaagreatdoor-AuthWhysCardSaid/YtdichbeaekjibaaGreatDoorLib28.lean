import Derived.Test.YtdichbeaekjibaaGreatDoorLib27
set_option linter.all false
set_option maxHeartbeats 40000000
namespace Hud
open Go
section
variable{G:L_}
def aOI:∀l:List CardM,zF (l.map CardM.A) (l.map CardM.A)=true|[]=>rfl|c::l=>by simp only[fG,zF,CardM.A_def,pL,fH,O9,beq_self_eq_true,yH,aOI l]
def aPj(cs:List CardM):aA PQ G aM3 [.ls 5 (cs.map CardM.A)] [] λr T=>r=.ag (RM.new cs).A/\T=[]:=by refine aA.dsub (p:=λr T=>r=.ag [.ls 5 (cs.map CardM.A),.v (.slice none 0 0),.v (.slice none 0 0),.v (.slice none 0 0),iv 0,.v (.slice none 0 0)]/\T=[]) (aC aOh ?_) ?_;simp only[go_sem];rintro r a ⟨rfl,rfl⟩;refine⟨_,?_,rfl,rfl⟩;simp only[fH,pL,RM.A,RM.new,rG,uP,aOI,O9,beq_self_eq_true,Nat.beq_refl,yH]
def aMU(r:RM)(d role:Int):MM:=⟨eI r d,role,false,⟨0,0,0⟩,[],0,0,false,0⟩
def aOJ(m:MM):pL m.A m.A=true:=by
 have:∀l:B_,zF (l.map λn=>[iv n]) (l.map λn=>[iv n])=true:=by
  intro l
  induction l with
  |nil=>rfl|cons x l ih=>simp only[fG,zF,pL,fH,O9,beq_self_eq_true,yH,ih]
 simp only[MM.A_def,pL,fH,rG,O9,beq_self_eq_true,Nat.beq_refl,yH,this]
def aJJ{α:Type}{A:α->O_}(h:∀x,pL (A x) (A x)=true){X Y:N_}(a:zF X Y=true):∀l:List α,zF (l.map A++X) (l.map A++Y)=true|[]=>by simpa using a|x::l=>by simp only[fG,jC,zF,h,mF,aJJ h a l]
def aPk(l:B_):zF (l.map λn=>[iv n]) (l.map λn=>[iv n])=true:=by have:=aJJ (A:=λn:Int=>[iv n]) (X:=[]) (Y:=[]) (λx=>by simp only[pL,fH,O9,beq_self_eq_true,yH]) rfl l;simpa using this
def aPS(l:List VM):zF (l.map VM.A) (l.map VM.A)=true:=by have:=aJJ (A:=VM.A) (X:=[]) (Y:=[]) (λx=>by simp only[VM.A_def,pL,fH,O9,beq_self_eq_true,yH]) rfl l;simpa using this
def aPT(l:List MM):zF (l.map MM.A) (l.map MM.A)=true:=by have:=aJJ (A:=MM.A) (X:=[]) (Y:=[]) aOJ rfl l;simpa using this
def aPs(r:RM)(d role:Int)(a:r.ok)(q:r.In.length<100000):aA PQ G aH3 [.ag r.A,iv d,iv role] [] λy T=>y=.ag (mU r d role).A/\T=[]:=by
 refine aA.dsub (p:=λy T=>(y=.ag r.A/\mU r d role=r\/y=.ag [.ls 5 (r.Cards.map CardM.A),rG (r.In++[d]),rG r.Gone,.ls 11 (r.L.map MM.A),iv r.Back,.ls 6 (r.V.map VM.A)]/\mU r d role={r with In:=r.In++[d]} \/
  y=.ag [.ls 5 (r.Cards.map CardM.A),rG (r.In++[d]),rG r.Gone,.ls 11 (r.L.map MM.A++[[iv (eI r d),iv role,.v (.bool false),iv 0,iv 0,uv 0,.v (.slice none 0 0),iv 0,iv 0,.v (.bool false),iv 0]]),iv r.Back,.ls 6 (r.V.map VM.A)]/\mU r d role={r with In:=r.In++[d],L:=r.L++[aMU r d role]})/\T=[]) ?_ ?_
 rotate_left;rintro y s ⟨h,rfl⟩;refine⟨_,?_,rfl,rfl⟩;rcases h with⟨rfl,h⟩|⟨rfl,h⟩|⟨rfl,h⟩
 rw[h];simp only[fH,pL,RM.A_def,rG,aOI,aPk,aPS,aPT,O9,beq_self_eq_true,Nat.beq_refl,yH];rw[h];simp only[fH,pL,RM.A_def,rG,aOI,aPk,aPS,aPT,O9,beq_self_eq_true,Nat.beq_refl,yH];rw[h];have w:=aJJ (A:=MM.A) (X:=[[iv (eI r d),iv role,.v (.bool false),iv 0,iv 0,uv 0,.v (.slice none 0 0),iv 0,iv 0,.v (.bool false),iv 0]]) (Y:=[(aMU r d role).A]) aOJ (by simp only[aMU,MM.A_def,zF,pL,fH,rG,uP,O9,beq_self_eq_true,Nat.beq_refl,yH];rfl) r.L;simp only[fH,pL,RM.A_def,rG,bZ,fG,uP];have hI:=aPk (r.In++[d]);simp only[bZ,fG,uP]at hI;simp only[aOI,aPk,aPS,w,hI,O9,beq_self_eq_true,Nat.beq_refl,yH]
 refine aA.fin (p:=λy T=>(y=.ag r.A/\T=[]/\mU r d role=r) \/
  (y=.ag [.ls 5 (r.Cards.map CardM.A),.own 0,rG r.Gone,.ls 11 (r.L.map MM.A),iv r.Back,.ls 6 (r.V.map VM.A)]/\T=[some (.arr 1 ((r.In++[d]).map λn=>[iv n]))]/\mU r d role={r with In:=r.In++[d]}) \/
  (y=.ag [.ls 5 (r.Cards.map CardM.A),.own 0,rG r.Gone,.own 1,iv r.Back,.ls 6 (r.V.map VM.A)]/\T=[some (.arr 1 ((r.In++[d]).map λn=>[iv n])),some (.arr 11 (r.L.map MM.A++[[iv (eI r d),iv role,.v (.bool false),iv 0,iv 0,uv 0,.v (.slice none 0 0),iv 0,iv 0,.v (.bool false),iv 0]]))]/\mU r d role={r with In:=r.In++[d],L:=r.L++[aMU r d role]})) (aC aMF ?_) [0,1] ?_
 have C:=a.i;have B:=a.l;have t:=aMb (G:=G) r d a;have f:=aFc (G:=G) r d a;simp only[go_sem,RM.A_def]at t f⊢;apply cX t;cases m:lZ r d;simp only[go_sem,m,RM.A_def];exact .inl (by rw[mU,m];rfl);simp only[go_sem,m,aP,(o_:r.In.length*8<=140737488355328),(g_:r.In.length<=maxLen),(o_:(r.In.length+1)*8<=140737488355328),(g_:r.In.length+1<=maxLen)];obtain⟨b,k⟩:∃b:RM,b={r with In:=r.In++[d]}:=⟨_,rfl⟩
 have e:b.ok:=by subst k;exact⟨a.c,by rw[dZ];exact q,a.g,a.l,a.v,a.mg⟩
 have f:=aFc (G:=G) b d e;have o:=aDy (G:=G) b (eI r d) e;have x:eI b d=eI r d:=by subst k;rfl
 have z:jL b (eI r d)=jL r (eI r d):=by subst k;rfl
 rw[x]at f;rw[z]at o;have u:b.A=[.ls 5 (r.Cards.map CardM.A),.ls 1 (r.In.map (λn=>[iv n])++[[iv d]]),rG r.Gone,.ls 11 (r.L.map MM.A),iv r.Back,.ls 6 (r.V.map VM.A)]:=by subst k;simp only[RM.A_def,rG,bZ,fG,uP]
 rw[u]at f o;have j:mU r d role={r with In:=r.In++[d],L:=if jL r (eI r d)<0 then r.L++[aMU r d role] else r.L}:=by rw[mU,if_neg (by simp[m])];rfl
 apply cH (aB _) rfl rfl f;rintro y s ⟨rfl,rfl⟩;refine⟨z_,s_,?_⟩;simp only[go_sem];apply cH (aB _) rfl rfl o;rintro y s ⟨rfl,rfl⟩;refine⟨z_,s_,?_⟩;simp only[go_sem];refine aL (λh=>?_) (λh=>?_);rw[if_pos (of_decide_eq_true h)]at j;simp only[go_sem,aP,(o_:r.L.length*104<=140737488355328),(g_:r.L.length<=maxLen),(o_:(r.L.length+1)*104<=140737488355328),(g_:r.L.length+1<=maxLen)];exact .inr (.inr ⟨rfl,j⟩);rw[if_neg (of_decide_eq_false h)]at j;simp only[go_sem];exact .inr (.inl j);rintro y s (⟨rfl,rfl,h⟩|⟨rfl,rfl,h⟩|⟨rfl,rfl,h⟩);simp only[go_sem,gQ,List.getElem?_nil,RM.A_def];exact .inl h;simp only[go_sem,gQ,RM.A_def,List.getElem?_nil,List.set_nil,rG];exact .inr (.inl h);simp only[go_sem,gQ,RM.A_def,List.getElem?_nil,List.set_nil,rG];exact .inr (.inr h)
def aN3(l:List MM)(k:Nat)(m:MM)(a:k<l.length)(d:l.length<=100000):aA PQ G aJa [.ls 11 (l.map MM.A),iv k,.ag m.A] [] λy T=>y=.ls 11 ((l.set k m).map MM.A)/\T=[]:=by
 refine aA.fin (p:=λy T=>y=.own 0/\T=[some (.arr 11 ((l.set k m).map MM.A))]) (aC aNQ ?_) [0] ?_;rotate_left;rintro y e ⟨rfl,rfl⟩;simp only[go_sem,gQ];have b:(l.map MM.A)[k]?=some l[k].A:=aO _ l k a;have c:(l.set k m).map MM.A=(l.map MM.A).set k m.A:=by rw[Ba]
 rw[c];generalize l[k]=x at *
 simp only[go_sem,aP,(o_:l.length*104<=140737488355328),(g_:l.length<=maxLen),a,b,MM.A_def]
end
end Hud
namespace Hud
set_option maxRecDepth 99999
open Go
def aN4:=eVf (cF aJ7 [(6,none,1),(9,none,11),(10,none,6),(64,none,1000),(1000000,some 6,0),(1000002,some 9,0),(1000004,some 10,0)])
def aLX:=eVf (cF aJE [(8,none,6),(1000000,some 8,0)])
def aLY:=eVf (cF aJF [(8,none,6),(87,none,1000)])
def aN5:=eVf (cF aK1 [(5,some 0,1)])
end Hud
namespace Hud
open Go
variable{G:L_}
def zR:O_:=[.v (.slice none 0 0),.v (.slice none 0 0),.v (.slice none 0 0),.v (.slice none 0 0),iv 0,.v (.slice none 0 0)]
def aPl (r:RM) (d:Int) (j:r.ok) (P:r.Gone.length<100000):aA PQ G aJ7 [.ag r.A,iv d] [] λy T=>y=.ag (lN r d).A/\T=[]:=by
 apply aC aN4;have K:=j.i;have E:=aKc (G:=G) r.In d o_;have k:=aFc (G:=G) r d j;have f:=λe=>aFc (G:=G) r e j;simp only[go_sem,RM.A_def]at k f⊢;apply cX E;cases u:decide (d∈r.In);simp only[go_sem,u];rw[lN,u];rfl;simp only[go_sem,u];apply cX k;simp only[go_sem];refine aQ r.In.length (λi=>⟨0,[(1,iv d),(2,.ptr 0 0),(4,.ptr 1 0),(5,iv (eI r d)),(6,.own 2),(7,.v (.bool (((r.In.take i).filter λx=>x !=d).any λx=>eI r x==eI r d))),(8,iv i)],[some (.box r.A),some (.box zR),some (.arr 1 (((r.In.take i).filter λx=>x !=d).map λn=>[iv n]))]⟩) (λ_=>True) ?_ trivial ?_ ?_;simp only[go_sem,RM.A_def,zR,uQ,List.filter_nil,uP,List.any_nil];intro i a _;have g:=fQ i o_;have h:(r.In.map λn=>[iv n])[i]?=some [iv r.In[i]]:=aO _ r.In i a;have o:r.In.take (i+1)=r.In.take i++[r.In[i]]:=lB a;have D:((r.In.take i).filter λx=>x !=d).length<=i:=by have:=List.length_filter_le (λx=>x !=d) (r.In.take i);rw[eC]at this;omega
 have H:=f r.In[i];rw[o,Mf];generalize(r.In.take i).filter (λx=>x !=d)=L at *
 cases c1:r.In[i]!=d;have e:([r.In[i]].filter λx=>x !=d)=[]:=by simp[c1]
 rw[e];simp only[go_sem,RM.A_def,zR,rG,aP,aT a,h,c1,g,jO];have e:([r.In[i]].filter λx=>x !=d)=[r.In[i]]:=by simp[c1]
 rw[e,List.any_append,bZ];cases c2:L.any λx=>eI r x==eI r d;simp only[go_sem,RM.A_def,zR,rG,aP,aT a,h,c1,c2,g,undef,(o_:(L.length+1)*8<=140737488355328),(g_:L.length+1<=maxLen)];apply cX H;simp only[go_sem,g,RM.A_def,zR,rG,List.any_cons,List.any_nil,EB,EH];simp only[go_sem,RM.A_def,zR,rG,aP,aT a,h,c1,c2,g,undef,(o_:(L.length+1)*8<=140737488355328),(g_:L.length+1<=maxLen)];intro _;simp only[go_sem,RM.A_def,zR,rG,aP,aS (bP _),dE,(o_:r.Gone.length*8<=140737488355328),(g_:r.Gone.length<=maxLen),(o_:(r.Gone.length+1)*8<=140737488355328),(g_:r.Gone.length+1<=maxLen)]
 have p:lN r d=(if((r.In.filter λx=>x !=d).any λx=>eI r x==eI r d)=true then {r with In:=r.In.filter (λx=>x !=d),Gone:=r.Gone++[d]} else
   {r with In:=r.In.filter (λx=>x !=d),Gone:=r.Gone++[d],L:=r.L.filter (λm=>m.N !=eI r d),V:=Fh {r with In:=r.In.filter (λx=>x !=d),Gone:=r.Gone++[d],L:=r.L.filter λm=>m.N !=eI r d} }):=by
  rw[lN,u];rfl
 have B:(r.In.filter λx=>x !=d).length<=100000:=uR (List.length_filter_le _ _) K;generalize r.In.filter (λx=>x !=d)=I at *
 refine aL (λt=>?_) (λt=>?_);rw[if_pos t]at p;rw[p];simp only[go_sem,RM.A_def,rG,bZ,fG,uP];rw[if_neg (by simp[t])]at p;rw[p];clear p t k f E;generalize eI r d=n at *
 have D:=j.l;simp only[go_sem];refine aQ r.L.length (λi=>⟨0,[(2,.ptr 0 0),(4,.ptr 1 0),(5,iv n),(9,.own 2),(10,.own 3),(11,iv i)],[some (.box {r with In:=I,Gone:=r.Gone++[d]}.A),some (.box zR),some (.arr 11 (((r.L.take i).filter λm=>m.N !=n).map MM.A)),some (.arr 6 [])]⟩) (λ_=>True) ?_ trivial ?_ ?_;simp only[go_sem,RM.A_def,zR,rG,bZ,fG,uP,uQ,List.filter_nil];intro i a _;have g:=fQ i o_;have h:(r.L.map MM.A)[i]?=some r.L[i].A:=aO _ r.L i a;have o:r.L.take (i+1)=r.L.take i++[r.L[i]]:=lB a;have z:((r.L.take i).filter λm=>m.N !=n).length<=i:=by have:=List.length_filter_le (λm:MM=>m.N !=n) (r.L.take i);rw[eC]at this;omega
 rw[o,Mf];generalize(r.L.take i).filter (λm=>m.N !=n)=L at *
 generalize r.L[i]=m at *
 cases c1:m.N !=n;have e:([m].filter λm=>m.N !=n)=[]:=by simp[c1]
 rw[e];simp only[go_sem,RM.A_def,MM.A_def,zR,rG,aP,aT a,h,c1,g,jO];have e:([m].filter λm=>m.N !=n)=[m]:=by simp[c1]
 rw[e,bZ];simp only[go_sem,RM.A_def,MM.A_def,zR,rG,aP,aT a,h,c1,g,(o_:(L.length+1)*104<=140737488355328),(g_:L.length+1<=maxLen)];intro _;have C:=j.v;obtain⟨b,s⟩:∃b:RM,b={r with In:=I,Gone:=r.Gone++[d],L:=r.L.filter λm=>m.N !=n}:=⟨_,rfl⟩
 have w:b.ok:=by subst s;exact⟨j.c,B,c_,uR (List.length_filter_le _ _) D,C,λm J=>j.mg m (gR.1 J).1⟩
 have q:=λx=>aKU (G:=G) b x w;have F:[AV.ls 5 (r.Cards.map CardM.A),.ls 1 (I.map λn=>[iv n]),.ls 1 (r.Gone.map (λn=>[iv n])++[[iv d]]),.ls 11 ((r.L.filter λm=>m.N !=n).map MM.A),iv r.Back,.ls 6 (r.V.map VM.A)]=b.A:=by subst s;simp only[RM.A_def,rG,bZ,fG,uP]
 have M:b.V=r.V:=by subst s;rfl
 have O:({r with In:=I,Gone:=r.Gone++[d],L:=r.L.filter (λm=>m.N !=n),V:=Fh {r with In:=I,Gone:=r.Gone++[d],L:=r.L.filter λm=>m.N !=n} }:RM)={b with V:=Fh b}:=by subst s;rfl
 rw[O];simp only[go_sem,RM.A_def,zR,rG,aP,aS (bP _),dE,bZ,fG,uP];rw[F];refine aQ b.V.length (λi=>⟨0,[(2,.ptr 0 0),(4,.ptr 1 0),(10,.own 2),(12,iv i)],[some (.box b.A),some (.box zR),some (.arr 6 (((b.V.take i).filter λv=>decide (0<=pZ b v.Of)).map VM.A))]⟩) (λ_=>True) ?_ trivial ?_ ?_;simp only[go_sem,RM.A_def,rG,zR,uQ,List.filter_nil,uP];intro i a _;rw[<-M]at C;have g:=fQ i o_;have h:(b.V.map VM.A)[i]?=some b.V[i].A:=aO _ b.V i a;have o:b.V.take (i+1)=b.V.take i++[b.V[i]]:=lB a;have z:((b.V.take i).filter λv=>decide (0<=pZ b v.Of)).length<=i:=by have:=List.length_filter_le (λv:VM=>decide (0<=pZ b v.Of)) (b.V.take i);rw[eC]at this;omega
 have q:=q b.V[i].Of;rw[o,Mf];generalize(b.V.take i).filter (λv=>decide (0<=pZ b v.Of))=L at *
 generalize b.V[i]=v at *
 clear F;simp only[go_sem,RM.A_def,VM.A_def,Id.A_def,zR,rG,aP,aT a,h,ge_iff_le]at q⊢;apply cX q;cases c1:decide (0<=pZ b v.Of);have e:([v].filter λv=>decide (0<=pZ b v.Of))=[]:=by simp[of_decide_eq_false c1]
 rw[e];simp only[go_sem,aP,a,h,c1,g,RM.A_def,zR,rG,jO];have e:([v].filter λv=>decide (0<=pZ b v.Of))=[v]:=by simp[of_decide_eq_true c1]
 rw[e,bZ];simp only[go_sem,aP,a,h,c1,g,VM.A_def,RM.A_def,zR,rG,(o_:(L.length+1)*48<=140737488355328),(g_:L.length+1<=maxLen)];intro _;simp only[go_sem,RM.A_def,zR,rG,aP,aS (bP _),dE];rfl
def aP6(r:RM)(o:OpM)(x:Id)(d:r.ok)(I:o.ok):aA PQ G aJE [.ag r.A,.ag o.A,.ag x.A] [] λy T=>y=.ag (BN r o x).A/\T=[]:=by
 have p:=aFc (G:=G) r o.By d;have s:=aDy (G:=G) r (eI r o.By) d;have D:=d.l;have B:=aMv (λm:MM=>m.N==eI r o.By) r.L;rw[show qX (λm:MM=>m.N==eI r o.By) r.L=jL r (eI r o.By) from rfl]at B;have F:BN r o x=(if jL r (eI r o.By)<0 then r else {r with L:=r.L.set (jL r (eI r o.By)).toNat ⟨(r.L.getD (jL r (eI r o.By)).toNat default).N,(r.L.getD (jL r (eI r o.By)).toNat default).Role,true,x,o.Guards,o.Need,o.Wait,false,0⟩,V:=Fh {r with L:=r.L.set (jL r (eI r o.By)).toNat ⟨(r.L.getD (jL r (eI r o.By)).toNat default).N,(r.L.getD (jL r (eI r o.By)).toNat default).Role,true,x,o.Guards,o.Need,o.Wait,false,0⟩} }):=by rw[BN]
 rw[F];clear F;generalize jL r (eI r o.By)=k at *
 apply aC aLX;simp only[go_sem,RM.A_def]at p s⊢;apply cX p;simp only[go_sem];apply cX s;simp only[go_sem];by_cases z:k<0;have c1:decide (k<0)=true:=decide_eq_true z;rw[if_pos z];simp only[go_sem,c1];have c1:decide (k<0)=false:=decide_eq_false z;rw[if_neg z];obtain⟨q,rfl⟩:=Int.eq_ofNat_of_zero_le (o_:0<=k);have w:q<r.L.length:=o_;have f:(r.L.map MM.A)[q]?=some r.L[q].A:=aO _ r.L q w;have K:r.L.getD q default=r.L[q]:=by simp[rH,w]
 have j:=aN3 (G:=G) r.L q ⟨r.L[q].N,r.L[q].Role,true,x,o.Guards,o.Need,o.Wait,false,0⟩ w D;rw[show((q:Int).toNat)=q from rfl,K];simp only[MM.A_def,Id.A_def]at j f;generalize r.L[q]=m at *
 simp only[go_sem,c1,aP,w,f,Id.A_def];apply cX j;obtain⟨a,t⟩:∃a:RM,a={r with L:=r.L.set q ⟨m.N,m.Role,true,x,o.Guards,o.Need,o.Wait,false,0⟩}:=⟨_,rfl⟩
 have n:a.ok:=by subst t;refine⟨d.c,d.i,d.g,by rw[cL];exact D,d.v,λy H=>?_⟩;rcases aGK H with h|h;exact d.mg y h;rw[h];exact I.guards.1
 have P:=n.v;have u:=λx=>aKU (G:=G) a x n;have E:[AV.ls 5 (r.Cards.map CardM.A),rG r.In,rG r.Gone,.ls 11 ((r.L.set q ⟨m.N,m.Role,true,x,o.Guards,o.Need,o.Wait,false,0⟩).map MM.A),iv r.Back,.ls 6 (r.V.map VM.A)]=a.A:=by subst t;simp only[RM.A_def]
 have Q:a.V=r.V:=by subst t;rfl
 have O:({r with L:=r.L.set q ⟨m.N,m.Role,true,x,o.Guards,o.Need,o.Wait,false,0⟩,V:=Fh {r with L:=r.L.set q ⟨m.N,m.Role,true,x,o.Guards,o.Need,o.Wait,false,0⟩} }:RM)={a with V:=Fh a}:=by subst t;rfl
 rw[O];simp only[go_sem];rw[E];clear t;refine aQ a.V.length (λi=>⟨0,[(3,.ptr 0 0),(6,.ptr 1 0),(8,.own 2),(9,iv i)],[some (.box a.A),some (.box zR),some (.arr 6 (((a.V.take i).filter λv=>decide (0<=pZ a v.Of)).map VM.A))]⟩) (λ_=>True) ?_ trivial ?_ ?_;simp only[go_sem,RM.A_def,rG,zR,uQ,List.filter_nil,uP];intro i b _;have C:=fQ i o_;have f:(a.V.map VM.A)[i]?=some a.V[i].A:=aO _ a.V i b;have M:a.V.take (i+1)=a.V.take i++[a.V[i]]:=lB b;have J:((a.V.take i).filter λv=>decide (0<=pZ a v.Of)).length<=i:=by have:=List.length_filter_le (λv:VM=>decide (0<=pZ a v.Of)) (a.V.take i);rw[eC]at this;omega
 have u:=u a.V[i].Of;rw[M,Mf];generalize(a.V.take i).filter (λv=>decide (0<=pZ a v.Of))=L at *
 generalize a.V[i]=v at *
 clear E;simp only[go_sem,RM.A_def,VM.A_def,Id.A_def,zR,rG,aP,aT b,f,ge_iff_le]at u⊢;apply cX u;cases c1:decide (0<=pZ a v.Of);have e:([v].filter λv=>decide (0<=pZ a v.Of))=[]:=by simp[of_decide_eq_false c1]
 rw[e];simp only[go_sem,aP,b,f,c1,C,RM.A_def,zR,rG,jO];have e:([v].filter λv=>decide (0<=pZ a v.Of))=[v]:=by simp[of_decide_eq_true c1]
 rw[e,bZ];simp only[go_sem,aP,b,f,c1,C,VM.A_def,RM.A_def,zR,rG,(o_:(L.length+1)*48<=140737488355328),(g_:L.length+1<=maxLen)];intro _;simp only[go_sem,RM.A_def,zR,rG,aP,aS (bP _),dE];rfl
def aP7(r:RM)(o:OpM)(q:r.ok)(B:r.V.length<100000):aA PQ G aJF [.ag r.A,.ag o.A] [] λy T=>y=.ag (iQ r o).A/\T=[]:=by
 have j:=aMM (G:=G) r o q;have s:=q.v;have ev:iQ r o=(if(kD r o).2≠0 then r else {r with V:=r.V.filter (λv=>!(decide (v.Of=o.Of)&&(v.By==o.By&&v.Device==o.Device)))++[⟨o.Of,o.By,o.Device,(r.V.filter λv=>decide (v.Of=o.Of)&&(v.By==o.By&&v.Device==o.Device)).foldl (λa v=>min a v.At) o.At⟩]}):=by rw[iQ]
 rw[ev];clear ev;generalize kD r o=x at *
 obtain⟨C,p⟩:=x;apply aC aLY;simp only[go_sem,RM.A_def]at j⊢;apply cX j;by_cases l:p=0;rotate_left;have c1:(p !=0)=true:=bne_iff_ne.2 l;rw[if_pos l];simp only[go_sem,c1];have c1:(p !=0)=false:=by simp[l]
 rw[if_neg (by simp[l])];simp only[go_sem,c1,Id.A_def];refine aQ r.V.length (λi=>⟨0,[(2,.ptr 0 0),(4,.ptr 1 0),(7,.ptr 2 0),(8,.own 3),(9,iv i)],[some (.box r.A),some (.box zR),some (.box (⟨o.Of,o.By,o.Device,((r.V.take i).filter λv=>decide (v.Of=o.Of)&&(v.By==o.By&&v.Device==o.Device)).foldl (λa v=>min a v.At) o.At⟩:VM).A),some (.arr 6 (((r.V.take i).filter λv=>!(decide (v.Of=o.Of)&&(v.By==o.By&&v.Device==o.Device))).map VM.A))]⟩) (λ_=>True) ?_ trivial ?_ ?_;simp only[go_sem,RM.A_def,VM.A_def,rG,zR,uQ,List.filter_nil,uP,Kk];intro i c _;have k:=fQ i o_;have n:(r.V.map VM.A)[i]?=some r.V[i].A:=aO _ r.V i c;have z:r.V.take (i+1)=r.V.take i++[r.V[i]]:=lB c;have t:((r.V.take i).filter λv=>!(decide (v.Of=o.Of)&&(v.By==o.By&&v.Device==o.Device))).length<=i:=by have:=List.length_filter_le (λv:VM=>!(decide (v.Of=o.Of)&&(v.By==o.By&&v.Device==o.Device))) (r.V.take i);rw[eC]at this;omega
 rw[z,Mf,Mf,Hy];generalize(r.V.take i).filter (λv=>!(decide (v.Of=o.Of)&&(v.By==o.By&&v.Device==o.Device)))=L at *
 generalize((r.V.take i).filter λv=>decide (v.Of=o.Of)&&(v.By==o.By&&v.Device==o.Device)).foldl (λa v=>min a v.At) o.At=d at *
 generalize r.V[i]=v at *
 have fl:∀b,(decide (v.Of=o.Of)&&(v.By==o.By&&v.Device==o.Device))=b->([v].filter λv=>decide (v.Of=o.Of)&&(v.By==o.By&&v.Device==o.Device))=(if b=true then [v] else [])/\([v].filter λv=>!(decide (v.Of=o.Of)&&(v.By==o.By&&v.Device==o.Device)))=(if b=true then [] else [v]):=λb w=>by cases b<;>simp only[List.filter_cons,List.filter_nil,w]<;>simp
 have f:(L.length+1)*48<=140737488355328:=o_;have e:L.length+1<=maxLen:=g_;have m:=aT c;rcases(show(decide (v.Of=o.Of)=false)\/(decide (v.Of=o.Of)=true/\(v.By==o.By)=false)\/(decide (v.Of=o.Of)=true/\(v.By==o.By)=true/\(v.Device==o.Device)=false)\/(decide (v.Of=o.Of)=true/\(v.By==o.By)=true/\(v.Device==o.Device)=true) by cases decide (v.Of=o.Of)<;>cases v.By==o.By<;>cases v.Device==o.Device<;>simp) with c1|⟨c1,c2⟩|⟨c1,c2,c3⟩|⟨c1,c2,c3⟩
 obtain⟨h,g⟩:=fl false (by rw[c1];rfl);rw[h,g];simp only[go_sem,RM.A_def,VM.A_def,Id.A_def,zR,rG,aP,m,n,c1,c,k,f,e,bZ,fG,uP,jJ,↓reduceIte,Kk];obtain⟨h,g⟩:=fl false (by rw[c1,c2];rfl);rw[h,g];simp only[go_sem,RM.A_def,VM.A_def,Id.A_def,zR,rG,aP,m,n,c1,c2,c,k,f,e,bZ,fG,uP,jJ,↓reduceIte,Kk];obtain⟨h,g⟩:=fl false (by rw[c1,c2,c3];rfl);rw[h,g];simp only[go_sem,RM.A_def,VM.A_def,Id.A_def,zR,rG,aP,m,n,c1,c2,c3,c,k,f,e,bZ,fG,uP,jJ,↓reduceIte,Kk];obtain⟨h,g⟩:=fl true (by rw[c1,c2,c3];rfl);rw[h,g];simp only[go_sem,RM.A_def,VM.A_def,Id.A_def,zR,rG,aP,m,n,c1,c2,c3,c,k,jO,↓reduceIte,CW,Kk,(sa:min d v.At=if v.At<d then v.At else d)];intro _;have u:=List.length_filter_le (λv:VM=>!(decide (v.Of=o.Of)&&(v.By==o.By&&v.Device==o.Device))) r.V;rw[dE];generalize r.V.filter (λv=>!(decide (v.Of=o.Of)&&(v.By==o.By&&v.Device==o.Device)))=L at *
 generalize(r.V.filter λv=>decide (v.Of=o.Of)&&(v.By==o.By&&v.Device==o.Device)).foldl (λa v=>min a v.At) o.At=d at *
 simp only[go_sem,RM.A_def,VM.A_def,Id.A_def,zR,rG,aP,aS (bP _),bZ,fG,uP,(o_:(L.length+1)*48<=140737488355328),(g_:L.length+1<=maxLen)]
structure RB(k:Nat)(r:RM):Prop where
 c:r.Cards.length<=1000
 i:r.In.length+r.Gone.length<=k
 l:r.L.length<=k
 v:r.V.length<=k
 mg:∀m∈r.L,m.Guards.length<=1000
def RB.ok{k:Nat}{r:RM}(h:RB k r)(a:k<=100000):r.ok:=⟨h.c,by have:=h.i;omega,by have:=h.i;omega,by have:=h.l;omega,by have:=h.v;omega,h.mg⟩
def RB.comes {k:Nat} {r:RM} (h:RB k r) (d role:Int):RB (k+1) (mU r d role):=by unfold mU;split;exact⟨h.c,by have:=h.i;omega,by have:=h.l;omega,by have:=h.v;omega,h.mg⟩;refine⟨h.c,by have:=h.i;simp;omega,?_,by have:=h.v;show r.V.length<=_;omega,?_⟩;have:=h.l;show(if _ then _ else _:List MM).length<=_;split;simp;omega;omega;intro m a;have a:m∈(if jL r (eI r d)<0 then r.L++[⟨eI r d,role,false,⟨0,0,0⟩,[],0,0,false,0⟩] else r.L):=a;split at a;rcases cG.1 a with a|a;exact h.mg m a;rw[cA.1 a];simp;exact h.mg m a
def aQm{l:B_}{d:Int}(h:d∈l):(l.filter λx=>x !=d).length<l.length:=by rcases eD (l.filter λx=>x !=d).length l.length with h1|h1;exact h1;have:=(List.filter_sublist (p:=λx=>x !=d) (l:=l)).eq_of_length_le h1;have h2:=gR.1 (this ▸ h);simp at h2
def RB.goes{k:Nat}{r:RM}(h:RB k r)(d:Int):RB k (lN r d):=by
 unfold lN;split;exact h;rename_i a;have a:d∈r.In:=M_;have h1:=aQm a;have e:=h.i;dsimp only;split;exact⟨h.c,c_,h.l,h.v,h.mg⟩;refine⟨h.c,c_,uR (List.length_filter_le _ _) h.l,uR (List.length_filter_le _ _) h.v,λm b=>h.mg m (gR.1 b).1⟩
def RB.goesF{k:Nat}:∀(l:B_){r:RM},RB k r->RB k (l.foldl lN r)|[],_,h=>h|d::l,_,h=>RB.goesF l (h.goes d)
def RB.setL{k:Nat}{r:RM}(h:RB k r)(q:Nat){m:MM}(b:m.Guards.length<=1000):RB k {r with L:=r.L.set q m}:=
 ⟨h.c,h.i,by show(r.L.set q m).length<=k;rw[cL];exact h.l,h.v,λy a=>by
  rcases aGK a with h1|h1;exact h.mg y h1
  rw[h1];exact b⟩
def RB.up{k b:Nat}{r:RM}(h:RB k r)(a:k<=b):RB b r:=⟨h.c,uR h.i a,uR h.l a,uR h.v a,h.mg⟩
def RB.getG{k:Nat}{r:RM}(h:RB k r)(q:Nat):(r.L.getD q default).Guards.length<=1000:=by rw[rH];rcases eD q r.L.length with h1|h1;rw[jN h1];exact h.mg _ (eQ h1);rw[sX h1];exact pR _
def RB.do {k:Nat} {r:RM} (h:RB k r) (o:OpM) (a:o.Guards.length<=1000) (x:Id):RB (k+1) (BS r o x):=by unfold BS;split;split;exact h.up o_;have:=h.comes o.By 3;exact⟨this.c,this.i,this.l,this.v,this.mg⟩;split;exact h.comes _ _;split;exact(RB.goesF _ h).up o_;split;split;exact h.up o_;exact(RB.setL (m:={ (r.L.getD _ default) with Role:=o.Role}) h _ (h.getG _)).up (Kl k);split;unfold BN;dsimp only;split;exact h.up o_;have h1:=(h.setL (jL r (eI r o.By)).toNat (m:=⟨(r.L.getD (jL r (eI r o.By)).toNat default).N,(r.L.getD (jL r (eI r o.By)).toNat default).Role,true,x,o.Guards,o.Need,o.Wait,false,0⟩) a).up (o_:k<=k+1);exact⟨h1.c,h1.i,h1.l,uR (List.length_filter_le _ _) h1.v,h1.mg⟩;split;unfold iQ;dsimp only;split;exact h.up o_;have h1:=h.up (o_:k<=k+1);refine⟨h1.c,h1.i,h1.l,?_,h1.mg⟩;have:=List.length_filter_le (λv:VM=>!(decide (v.Of=o.Of)&&(v.By==o.By&&v.Device==o.Device))) r.V;show(_++[_]:List VM).length<=_;rw[dZ];exact Nat.succ_le_succ (uR this h.v);split;dsimp only;split;exact h.up o_;split;exact(RB.setL (m:={ (r.L.getD _ default) with Obj:=true,Last:=_}) h _ (h.getG _)).up (Kl k);exact h.up o_;split;dsimp only;split;exact h.up o_;split;exact(h.comes _ _).goes _;exact h.up o_;exact h.up o_
def aQG (k:Nat) (hk:k<=1000) (r:RM) (P:RB k r) (o:OpM) (x:Id) (ho:o.ok):aA PQ G aMw [.ag r.A,.ag o.A,.ag x.A] [] λy T=>y=.ag (BS r o x).A/\T=[]:=by
 have E:=P.ok (by omega);have hi:=P.i;have a:=aFc (G:=G) r o.By E;have t:=λe=>aFc (G:=G) r e E;have b:=aDy (G:=G) r (eI r o.By) E;have K:=λd Q=>aPs (G:=G) r d Q E (by omega);rcases(show o.Kind=1\/o.Kind=2\/o.Kind=3\/o.Kind=5\/o.Kind=9\/o.Kind=11\/o.Kind=12\/o.Kind=13\/(o.Kind≠1/\o.Kind≠2/\o.Kind≠3/\o.Kind≠5/\o.Kind≠9/\o.Kind≠11/\o.Kind≠12/\o.Kind≠13) by omega) with hK|hK|hK|hK|hK|hK|hK|hK|hK;have e:BS r o x=if 0<r.In.length\/0<r.Gone.length\/eI r o.By=0 then r else {mU r o.By 3 with Back:=o.Need}:=by simp[BS,hK]
 rw[e];clear e;have b1:decide (0<(r.In.length:Int))=decide (0<r.In.length):=decide_eq_decide.2 (by omega);have b2:decide (0<(r.Gone.length:Int))=decide (0<r.Gone.length):=decide_eq_decide.2 (by omega);have C:=K o.By 3;rcases(show 0<r.In.length\/(¬0<r.In.length/\0<r.Gone.length)\/(¬0<r.In.length/\¬0<r.Gone.length/\eI r o.By=0)\/(¬0<r.In.length/\¬0<r.Gone.length/\eI r o.By≠0) by omega) with c1|⟨c1,c2⟩|⟨c1,c2,c3⟩|⟨c1,c2,c3⟩
 rw[if_pos (.inl c1)];have M:decide (0<r.In.length)=true:=decide_eq_true c1;refine aC aAD ?_;simp only[go_sem,RM.A_def]at a b C⊢;refine cX a ?_;simp only[go_sem];refine cX b ?_;simp only[go_sem,hK,rG,aP,gt_iff_lt,b1,M,undef];rw[if_pos (.inr (.inl c2))];have M:decide (0<r.In.length)=false:=decide_eq_false c1;have Z:decide (0<r.Gone.length)=true:=decide_eq_true c2;refine aC aAD ?_;simp only[go_sem,RM.A_def]at a b C⊢;refine cX a ?_;simp only[go_sem];refine cX b ?_;simp only[go_sem,hK,rG,aP,gt_iff_lt,b1,b2,M,Z,undef];rw[if_pos (.inr (.inr c3))];have M:decide (0<r.In.length)=false:=decide_eq_false c1;have Z:decide (0<r.Gone.length)=false:=decide_eq_false c2;rw[c3]at a;refine aC aAD ?_;rw[c3]at b;simp only[go_sem,RM.A_def,rG]at a b C⊢;refine cX a ?_;simp only[go_sem];refine cX b ?_;simp only[go_sem,hK,rG,aP,gt_iff_lt,b1,b2,M,Z];refine cX a ?_;simp only[go_sem];rw[if_neg (by omega)];have M:decide (0<r.In.length)=false:=decide_eq_false c1;have Z:decide (0<r.Gone.length)=false:=decide_eq_false c2;have d3:(eI r o.By==0)=false:=by simp[c3]
 refine aC aAD ?_;simp only[go_sem,RM.A_def,rG]at a b C⊢;refine cX a ?_;simp only[go_sem];refine cX b ?_;simp only[go_sem,hK,rG,aP,gt_iff_lt,b1,b2,M,Z];refine cX a ?_;simp only[go_sem,d3];refine cX C ?_;generalize mU r o.By 3=r1 at *
 simp only[go_sem,RM.A_def];have e:BS r o x=mU r o.Device o.Role:=by simp[BS,hK]
 rw[e];have C:=K o.Device o.Role;refine aC aAD ?_;simp only[go_sem,RM.A_def,rG]at a b C⊢;refine cX a ?_;simp only[go_sem];refine cX b ?_;simp only[go_sem,hK];refine cX C ?_;simp only[go_sem];have e:BS r o x=(if o.Device=0 then r.In.filter (λd=>eI r d==o.Member) else [o.Device]).foldl lN r:=by simp[BS,hK]
 rw[e];clear e;have w:∀(q:RM)(d:Int),RB k q->aA PQ G aJ7 [.ag q.A,iv d] [] λy T=>y=.ag (lN q d).A/\T=[]:=λq d g=>aPl q d (g.ok (by omega)) (by have:=g.i;omega);by_cases hd:o.Device=0;rw[if_pos hd];refine aC aAD ?_;simp only[go_sem,RM.A_def,rG]at a b t⊢;refine cX a ?_;simp only[go_sem];refine cX b ?_;simp only[go_sem,hK,hd];refine aQ r.In.length (λi=>⟨0,[(3,.ptr 0 0),(4,.ptr 1 0),(6,.ptr 2 0),(8,.own 3),(9,iv i)],[some (.box r.A),some (.box o.A),some (.box zR),some (.arr 1 (((r.In.take i).filter λd=>eI r d==o.Member).map λn=>[iv n]))]⟩) (λ_=>True) ?_ trivial ?_ ?_;simp only[go_sem,RM.A_def,zR,rG,uQ,List.filter_nil,uP];intro i c _;have O:=fQ i (by omega);have f:(r.In.map λn=>[iv n])[i]?=some [iv r.In[i]]:=aO _ r.In i c;have Y:r.In.take (i+1)=r.In.take i++[r.In[i]]:=lB c;have hl:((r.In.take i).filter λd=>eI r d==o.Member).length<=i:=by have:=List.length_filter_le (λd=>eI r d==o.Member) (r.In.take i);rw[eC]at this;omega
 have ho:=t r.In[i];rw[Y,Mf];generalize(r.In.take i).filter (λd=>eI r d==o.Member)=L at *
 cases c1:eI r r.In[i]==o.Member;have e:([r.In[i]].filter λd=>eI r d==o.Member)=[]:=by simp[c1]
 rw[e];simp only[go_sem,RM.A_def,zR,rG,aP,aT c,f];refine cX ho ?_;simp only[go_sem,RM.A_def,zR,rG,c1,O,jO];have e:([r.In[i]].filter λd=>eI r d==o.Member)=[r.In[i]]:=by simp[c1]
 rw[e,bZ];simp only[go_sem,RM.A_def,zR,rG,aP,aT c,f];refine cX ho ?_;simp only[go_sem,RM.A_def,zR,rG,aP,c,f,c1,O,show(L.length+1)*8<=140737488355328 by omega,show L.length+1<=maxLen by unfold maxLen;omega];intro _;have ab:=List.length_filter_le (λd=>eI r d==o.Member) r.In;simp only[go_sem,RM.A_def,zR,rG,aP,aS (bP _),dE];generalize r.In.filter (λd=>eI r d==o.Member)=l at *
 refine aQ l.length (λi=>⟨0,[(3,.ptr 0 0),(6,.ptr 1 0),(8,.own 2),(10,iv i)],[some (.box ((l.take i).foldl lN r).A),some (.box zR),some (.arr 1 (l.map λn=>[iv n]))]⟩) (λ_=>True) ?_ trivial ?_ ?_;simp only[go_sem,RM.A_def,zR,rG,uQ,Kk];intro i c _;have O:=fQ i (by omega);have f:(l.map λn=>[iv n])[i]?=some [iv l[i]]:=aO _ l i c;have H:=w _ l[i] (RB.goesF (l.take i) P);have Y:(l.take (i+1)).foldl lN r=lN ((l.take i).foldl lN r) l[i]:=by rw[lB c,Hy];rfl
 rw[Y];generalize lN ((l.take i).foldl lN r) l[i]=R at *
 generalize(l.take i).foldl lN r=r1 at *
 simp only[go_sem,RM.A_def,rG]at H;simp only[go_sem,RM.A_def,zR,rG,aP,aT c,c,f];refine cX H ?_;simp only[go_sem,RM.A_def,zR,rG,O];intro _;rw[dE];generalize l.foldl lN r=R at *
 simp only[go_sem,RM.A_def,zR,rG,aP,aS (bP _)];have d0:(o.Device==0)=false:=by simp[hd]
 rw[if_neg hd];obtain⟨l,el⟩:∃l:B_,l=[o.Device]:=⟨_,rfl⟩
 have ab:l.length<=1:=by rw[el];simp
 rw[<-el];have em:[[AV.v (.int .i64 o.Device)]]=l.map λn=>[iv n]:=by rw[el];rfl
 clear el;refine aC aAD ?_;simp only[go_sem,RM.A_def,rG]at a b⊢;refine cX a ?_;simp only[go_sem];refine cX b ?_;simp only[go_sem,hK,d0,em];refine aQ l.length (λi=>⟨0,[(3,.ptr 0 0),(6,.ptr 1 0),(8,.own 2),(10,iv i)],[some (.box ((l.take i).foldl lN r).A),some (.box zR),some (.arr 1 (l.map λn=>[iv n]))]⟩) (λ_=>True) ?_ trivial ?_ ?_;simp only[go_sem,RM.A_def,zR,rG,uQ,Kk];intro i c _;have O:=fQ i (by omega);have f:(l.map λn=>[iv n])[i]?=some [iv l[i]]:=aO _ l i c;have H:=w _ l[i] (RB.goesF (l.take i) P);have Y:(l.take (i+1)).foldl lN r=lN ((l.take i).foldl lN r) l[i]:=by rw[lB c,Hy];rfl
 rw[Y];generalize lN ((l.take i).foldl lN r) l[i]=R at *
 generalize(l.take i).foldl lN r=r1 at *
 simp only[go_sem,RM.A_def,rG]at H;simp only[go_sem,RM.A_def,zR,rG,aP,aT c,c,f];refine cX H ?_;simp only[go_sem,RM.A_def,zR,rG,O];intro _;rw[dE];generalize l.foldl lN r=R at *
 simp only[go_sem,RM.A_def,zR,rG,aP,aS (bP _)];have e:BS r o x=(if jL r o.Member<0 then r else {r with L:=r.L.set (jL r o.Member).toNat { (r.L.getD (jL r o.Member).toNat default) with Role:=o.Role} }):=by simp[BS,hK]
 have J:=aDy (G:=G) r o.Member E;have F:=aMv (λm:MM=>m.N==o.Member) r.L;rw[show qX (λm:MM=>m.N==o.Member) r.L=jL r o.Member from rfl]at F;rw[e];clear e;generalize jL r o.Member=D at *
 by_cases s:D<0;rw[if_pos s];have c1:decide (0<=D)=false:=decide_eq_false (by omega);refine aC aAD ?_;simp only[go_sem,RM.A_def,rG]at a b J⊢;refine cX a ?_;simp only[go_sem];refine cX b ?_;simp only[go_sem,hK];refine cX J ?_;simp only[go_sem,ge_iff_le,c1];obtain⟨q,rfl⟩:=Int.eq_ofNat_of_zero_le (show 0<=D by omega);rw[if_neg s];have c1:decide (0<=(q:Int))=true:=decide_eq_true (by omega);have g:q<r.L.length:=by omega
 have f:(r.L.map MM.A)[q]?=some r.L[q].A:=aO _ r.L q g;have X:r.L.getD q default=r.L[q]:=by simp[rH,g]
 have u:=aN3 (G:=G) r.L q {r.L[q]with Role:=o.Role} g E.l;rw[show((q:Int).toNat)=q from rfl,X];simp only[MM.A_def]at u f;generalize r.L[q]=m at *
 refine aC aAD ?_;simp only[go_sem,RM.A_def,rG]at a b J⊢;refine cX a ?_;simp only[go_sem];refine cX b ?_;simp only[go_sem,hK];refine cX J ?_;simp only[go_sem,ge_iff_le,c1,aP,g,f];refine cX u ?_;simp only[go_sem];have e:BS r o x=BN r o x:=by simp[BS,hK]
 have H:=aP6 (G:=G) r o x E ho;rw[e];generalize BN r o x=r1 at *
 refine aC aAD ?_;simp only[go_sem,RM.A_def,rG]at a b H⊢;refine cX a ?_;simp only[go_sem];refine cX b ?_;simp only[go_sem,hK];refine cX H ?_;simp only[go_sem,RM.A_def,rG];have e:BS r o x=iQ r o:=by simp[BS,hK]
 have H:=aP7 (G:=G) r o E (by have:=P.v;omega);rw[e];generalize iQ r o=r1 at *
 refine aC aAD ?_;simp only[go_sem,RM.A_def,rG]at a b H⊢;refine cX a ?_;simp only[go_sem];refine cX b ?_;simp only[go_sem,hK];refine cX H ?_;simp only[go_sem,RM.A_def,rG];have e:BS r o x=(if jL r (eI r o.By)<0 then r else if((r.L.getD (jL r (eI r o.By)).toNat default).Is&&decide ((r.L.getD (jL r (eI r o.By)).toNat default).ID=o.Of))=true then {r with L:=r.L.set (jL r (eI r o.By)).toNat { (r.L.getD (jL r (eI r o.By)).toNat default) with Obj:=true,Last:=max (r.L.getD (jL r (eI r o.By)).toNat default).Last o.At} } else r):=by simp[BS,hK]
 have F:=aMv (λm:MM=>m.N==eI r o.By) r.L;rw[show qX (λm:MM=>m.N==eI r o.By) r.L=jL r (eI r o.By) from rfl]at F;rw[e];clear e;generalize jL r (eI r o.By)=D at *
 by_cases s:D<0;rw[if_pos s];have c1:decide (0<=D)=false:=decide_eq_false (by omega);refine aC aAD ?_;simp only[go_sem,RM.A_def,rG]at a b⊢;refine cX a ?_;simp only[go_sem];refine cX b ?_;simp only[go_sem,hK,ge_iff_le,c1,undef];obtain⟨q,rfl⟩:=Int.eq_ofNat_of_zero_le (show 0<=D by omega);rw[if_neg s];have c1:decide (0<=(q:Int))=true:=decide_eq_true (by omega);have c2:(if(q:Int)<0 then(0:Int) else(q:Int))=(q:Int):=if_neg (by omega);have j:(if(0:Int)<(q:Int) then(q:Int) else 0)=(q:Int):=by split<;>omega
 have g:q<r.L.length:=by omega
 have f:(r.L.map MM.A)[q]?=some r.L[q].A:=aO _ r.L q g;have X:r.L.getD q default=r.L[q]:=by simp[rH,g]
 have u:=aN3 (G:=G) r.L q {r.L[q]with Obj:=true,Last:=max r.L[q].Last o.At} g E.l;rw[show((q:Int).toNat)=q from rfl,X];simp only[MM.A_def,Id.A_def]at u f;generalize r.L[q]=m at *
 rcases(show m.Is=false\/(m.Is=true/\decide (m.ID=o.Of)=false)\/(m.Is=true/\decide (m.ID=o.Of)=true) by cases m.Is<;>cases decide (m.ID=o.Of)<;>simp) with h1|⟨h1,h2⟩|⟨h1,h2⟩
 rw[h1,lR,if_neg (by decide)];rw[h1]at f;refine aC aAD ?_;simp only[go_sem,RM.A_def,rG]at a b⊢;refine cX a ?_;simp only[go_sem];refine cX b ?_;simp only[go_sem,hK,ge_iff_le,c1,c2,j,aP,g,f,undef];rw[h1,h2,Ea,if_neg (by decide)];rw[h1]at f;refine aC aAD ?_;simp only[go_sem,RM.A_def,rG]at a b⊢;refine cX a ?_;simp only[go_sem];refine cX b ?_;simp only[go_sem,hK,ge_iff_le,c1,c2,j,aP,g,f,Id.A_def,h2];rw[h1,h2,yH,if_pos rfl];rw[h1]at f u;have aa:max m.Last o.At=if o.At>m.Last then o.At else m.Last:=by split<;>omega
 rw[aa]at u⊢;refine aC aAD ?_;simp only[go_sem,RM.A_def,rG]at a b⊢;refine cX a ?_;simp only[go_sem];refine cX b ?_;simp only[go_sem,hK,ge_iff_le,c1,c2,j,aP,g,f,Id.A_def,h2];refine cX u ?_;simp only[go_sem,h1];have e:BS r o x=(if pZ r o.Of<0 then r else if(decide (o.Old∈r.In)&&(eI r o.Old==(r.L.getD (pZ r o.Of).toNat default).N&&eI r o.Device==(r.L.getD (pZ r o.Of).toNat default).N))=true then lN (mU r o.Device (sD r (eI r o.Device))) o.Old else r):=by simp[BS,hK]
 have F:=aMv (λm:MM=>m.Is&&decide (m.ID=o.Of)) r.L;rw[show qX (λm:MM=>m.Is&&decide (m.ID=o.Of)) r.L=pZ r o.Of from rfl]at F;have p:=aKU (G:=G) r o.Of E;have h:=aKc (G:=G) r.In o.Old (by omega);have B:=t o.Old;have z:=t o.Device;have I:=aOB (G:=G) r (eI r o.Device) E;have C:=K o.Device (sD r (eI r o.Device));have W:=P.comes o.Device (sD r (eI r o.Device));have w:=aPl (G:=G) _ o.Old (W.ok (by omega)) (by have:=W.i;omega);rw[e];clear e t K;generalize pZ r o.Of=D at *
 by_cases s:D<0;rw[if_pos s];have c1:decide (0<=D)=false:=decide_eq_false (by omega);refine aC aAD ?_;simp only[go_sem,RM.A_def,rG,Id.A_def]at a b p⊢;refine cX a ?_;simp only[go_sem];refine cX b ?_;simp only[go_sem,hK];refine cX p ?_;simp only[go_sem,ge_iff_le,c1,undef];obtain⟨q,rfl⟩:=Int.eq_ofNat_of_zero_le (show 0<=D by omega);rw[if_neg s];have c1:decide (0<=(q:Int))=true:=decide_eq_true (by omega);have j:(if(0:Int)>(q:Int) then(0:Int) else(q:Int))=(q:Int):=if_neg (by omega);have c2:(if(q:Int)<0 then(0:Int) else(q:Int))=(q:Int):=if_neg (by omega);have g:q<r.L.length:=by omega
 have f:(r.L.map MM.A)[q]?=some r.L[q].A:=aO _ r.L q g;have X:r.L.getD q default=r.L[q]:=by simp[rH,g]
 rw[show((q:Int).toNat)=q from rfl,X];simp only[MM.A_def,Id.A_def]at f;generalize r.L[q]=m at *
 generalize mU r o.Device (sD r (eI r o.Device))=R at *
 generalize lN R o.Old=r3 at *
 rcases(show decide (o.Old∈r.In)=false\/(decide (o.Old∈r.In)=true/\(eI r o.Old==m.N)=false)\/(decide (o.Old∈r.In)=true/\(eI r o.Old==m.N)=true/\(eI r o.Device==m.N)=false)\/(decide (o.Old∈r.In)=true/\(eI r o.Old==m.N)=true/\(eI r o.Device==m.N)=true) by cases decide (o.Old∈r.In)<;>cases eI r o.Old==m.N<;>cases eI r o.Device==m.N<;>simp) with h1|⟨h1,h2⟩|⟨h1,h2,h3⟩|⟨h1,h2,h3⟩
 rw[h1]at h;rw[h1,lR,if_neg (by decide)];refine aC aAD ?_;simp only[go_sem,RM.A_def,rG,Id.A_def]at a b p h⊢;refine cX a ?_;simp only[go_sem];refine cX b ?_;simp only[go_sem,hK];refine cX p ?_;simp only[go_sem,ge_iff_le,c1];refine cX h ?_;simp only[go_sem,undef];rw[h1]at h;rw[h1,h2,lR,Ea,if_neg (by decide)];refine aC aAD ?_;simp only[go_sem,RM.A_def,rG,Id.A_def]at a b p h B z I C w⊢;refine cX a ?_;simp only[go_sem];refine cX b ?_;simp only[go_sem,hK];refine cX p ?_;simp only[go_sem,ge_iff_le,c1];refine cX h ?_;simp only[go_sem,c2,j,aP,g,f];refine cX B ?_;simp only[go_sem,c2,j,aP,g,f,h2,undef];rw[h1]at h;rw[h1,h2,h3,Ea,Ea,if_neg (by decide)];refine aC aAD ?_;simp only[go_sem,RM.A_def,rG,Id.A_def]at a b p h B z I C w⊢;refine cX a ?_;simp only[go_sem];refine cX b ?_;simp only[go_sem,hK];refine cX p ?_;simp only[go_sem,ge_iff_le,c1];refine cX h ?_;simp only[go_sem,c2,j,aP,g,f];refine cX B ?_;simp only[go_sem,c2,j,aP,g,f,h2];refine cX z ?_;simp only[go_sem,c2,j,aP,g,f,h3];rw[h1]at h;rw[h1,h2,h3,yH,yH,if_pos rfl];refine aC aAD ?_;simp only[go_sem,RM.A_def,rG,Id.A_def]at a b p h B z I C w⊢;refine cX a ?_;simp only[go_sem];refine cX b ?_;simp only[go_sem,hK];refine cX p ?_;simp only[go_sem,ge_iff_le,c1];refine cX h ?_;simp only[go_sem,c2,j,aP,g,f];refine cX B ?_;simp only[go_sem,c2,j,aP,g,f,h2];refine cX z ?_;simp only[go_sem,c2,j,aP,g,f,h3];refine cX z ?_;simp only[go_sem];refine cX I ?_;simp only[go_sem];refine cX C ?_;simp only[go_sem,RM.A_def,rG];refine cX w ?_;simp only[go_sem,RM.A_def,rG];obtain⟨n1,n2,n3,n5,n9,V,U,S⟩:=hK;have e:BS r o x=r:=by simp[BS,n1,n2,n3,n5,n9,V,U,S]
 have f1:(o.Kind==1)=false:=by simpa using n1
 have f2:(o.Kind==2)=false:=by simpa using n2
 have f3:(o.Kind==3)=false:=by simpa using n3
 have f5:(o.Kind==5)=false:=by simpa using n5
 have f9:(o.Kind==9)=false:=by simpa using n9
 have ae:(o.Kind==11)=false:=by simpa using V
 have ad:(o.Kind==12)=false:=by simpa using U
 have ac:(o.Kind==13)=false:=by simpa using S
 rw[e];refine aC aAD ?_;simp only[go_sem,RM.A_def,rG]at a b⊢;refine cX a ?_;simp only[go_sem];refine cX b ?_;simp only[go_sem,f1,f2,f3,f5,f9,ae,ad,ac]
def qC(V:D_)(bs:V_)(a:Nat):AObj:=.map true (V.map Id.K) (V.map λ_=>.v (.bool true)) bs a
structure LAt(T:aK)(l v f:Nat)(p:Nat×Nat×Nat)(row V F:List Id):Prop where
 box:T[l]?=some (some (.box [.ptr p.1 0,ids row,.mp v,.mp f]))
 vo:∃bs cl,T[v]?=some (some (qC V bs cl))/\Bs V.length bs cl
 fo:∃bs cl,T[f]?=some (some (qC F bs cl))/\Bs F.length bs cl
 ne:l≠v/\l≠f/\v≠f/\v≠p.1/\v≠p.2.1/\v≠p.2.2
def iS(g:PGM)(V:D_)(out:D_)(x:Id):D_:=if x∉V/\mT (Lo g out x) (g.nd x).o=0 then out++[x] else out
def mW(g:PGM)(V row:D_):D_:=row.foldl (iS g V) []
def S9{g:PGM}{V out:D_}{x:Id}:(iS g V out x).Sublist (out++[x]):=by grind[iS]
theorem Aa{g:PGM}{V:D_}:∀(row out:D_),(row.foldl (iS g V) out).Sublist (out++row)|[],out=>by simp|x::row,out=>by refine(Aa row _).trans ?_;have:=(S9 (g:=g) (V:=V) (out:=out) (x:=x)).append_right row;simpa using this
def RV{g:PGM}(b:GGood g){ss:D_}(c:∀x∈ss,x∈g.I)(d:ss.Nodup)(x:Id):RGood ss.reverse g.cards (Lo g ss x):=by have:=B6 b (ss.filter λy=>oH g y x) (RGood.new (D:=[]) b.cards) (λy a=>c y (gR.1 a).1) (by rw[jO];exact d.sublist List.filter_sublist);refine this.mono λy a=>?_;simp_all
def TB{L:aK}{n:Nat}{a:Option AObj}(h:L.length=n):(L++[a])[n]?=some a:=by subst h;simp
section
variable{T:aK}{p:Nat×Nat×Nat}{g:PGM}{l v f:Nat}{row V F:D_}
def LAt.app{X:aK}(h:LAt T l v f p row V F):LAt (T++X) l v f p row V F :=
 ⟨aF h.box,let⟨b,c,x,y⟩:=h.vo;⟨b,c,aF x,y⟩,let⟨b,c,x,y⟩:=h.fo;⟨b,c,aF x,y⟩,h.ne⟩
def Xr (hK:AK G) (h:GAt T p g) (u:GGood g) (hl:LAt T l v f p row V F) (O:∀x∈row,x∈g.I) (hn:row.Nodup):
 aA PQ G nJ [.ptr l 0] T λy T'=>y=ids (mW g V row)/\T'=T:=by
 refine(aA.keepLs (q:=λk es=>k=3/\es=(mW g V row).map Id.A) (fT Gg ?_)).mono ?_;rotate_left;simp;have L:=λX:aK=>aF (X:=X) hl.box;simp only[go_sem,L,ids,aP];have ab:row.length<=200:=by have:=List.Nodup.length_le_of_subset hn O;have h2:=u.ok.n;grind[PGM.I,List.length_map]
 obtain⟨bs,cl,hv,ah⟩:=hl.vo;have av:=λX:aK=>aF (X:=X) hv;unfold qC at av
 refine kL (λn st=>∃i,i<=row.length/\n=row.length-i/\∃(X:aK)(k:Nat),X[k]?=some (some (.arr 3 (((row.take i).foldl (iS g V) []).map Id.A))) /\
  ∃S,(S=[(13,iv i),(12,iv row.length),(11,ids row),(3,.own (T.length+k)),(0,.ptr l 0)]\/S=[(13,iv i),(3,.own (T.length+k)),(12,iv row.length),(11,ids row),(0,.ptr l 0)])/\st=⟨T.length,S,T++X⟩) row.length ⟨0,pR _,rfl,_,0,rfl,_,.inl rfl,rfl⟩ ?_
 rintro n st ⟨i,hi,ad,X,k,M,S,hS,rfl⟩;rcases eD i row.length with r|af;rotate_left
 ·obtain rfl:i=row.length:=o_;rw[dE]at M;rcases hS with rfl|rfl
  all_goals simp only[go_sem,aS (bP _)]
  all_goals exact⟨aH,_,3,_,rfl,o_,by rw[aZ];exact M,rfl,rfl⟩
 have N:=fQ i o_;have E:=O _ (eQ r);have g0:(row.map Id.A)[i]?=some row[i].A:=aO _ row i r;have w:(row.take (i+1)).foldl (iS g V) []=iS g V ((row.take i).foldl (iS g V) []) row[i]:=by rw[lB r,Hy];rfl
 have t:((row.take i).foldl (iS g V) []).Sublist (row.take i):=by grind[Aa]
 generalize aa:(row.take i).foldl (iS g V) []=out at *
 have B:∀x∈out,x∈g.I:=λx hx=>O x (C8 (t.subset hx));have C:out.Nodup:=(hn.sublist (List.take_sublist _ _)).sublist t;have ac:out.length<=200:=m_;have U:=RV u B C row[i];have cE:=λX=>S5 (G:=G) (h.app (X:=X)) u.ok row[i] E;have P:=u.op E;have d:eR [.int .i64,.int .i64,.int .u64] [.int .i64 row[i].a,.int .i64 row[i].b,.int .u64 row[i].c] (V.map Id.K) 0=some ((V.findIdx? λy=>decide (y=row[i])).map (· + 0)):=qH row[i] V 0;generalize row[i]=z at *
 have m:=λY:aK=>aF (X:=Y) M;have H:=λZ:aK=>aIC (G:=G) (T:=T++(X++Z)) h.app u (L _) (T.length+k) out (by rw[aZ];exact m _) B C z;have R:out.length+1<=maxLen:=g_;have Q:(out.length+1)*24<=140737488355328:=o_;rcases hS with rfl|rfl
 all_goals simp only[go_sem,aT r,g0,ids,aZ,cP,fF,iR,sW,L,Id.A_def,eB,jC,dM,Nat.reduceAdd]
 all_goals refine⟨?_,?_⟩
 all_goals refine jA (cE _) ?_
 all_goals rintro y T' ⟨rfl,eT⟩
 all_goals obtain rfl:=eT.symm
 all_goals simp only[go_sem,aZ,cP,fF,oX,sW,yG,L,eB,jC,dM,Nat.reduceAdd]
 all_goals by_cases hz:z∈V
 iterate 4
  obtain⟨j,e1,lj,_⟩:=dG hz
  rw[e1]at d
  simp only[iX,mG]at d
  have gv:(V.map λ_=>AV.v (.bool true))[j]?=some (.v (.bool true)):=u_
  have ae:=AL z
  have e:iS g V out z=out:=by grind[iS]
  rw[e]at w
  simp only[go_sem,av,d,gv,undef,N]
  exact⟨row.length-(i+1),o_,i+1,o_,rfl,_,k,by rw[w];exact m _,_,od,rfl⟩
  rw[eG hz]at d
  simp only[xD]at d
  simp only[go_sem,aZ,fF,oX,sW,jC,dM,Nat.reduceAdd,av,d]
  apply jA (H _)
  rintro y T' ⟨s,rfl,hA⟩
  obtain⟨X2,J⟩:=hA.ext
  have W:=hA.at'
  simp only[eB,jC,dM]at J
  subst J
  have D:=O8 (G:=G) hK W U u.cards (g.nd z).o z (by have:=P.1.gl;omega)
  simp only[go_sem,aZ,fF,oX,sW,jC,dM,Nat.reduceAdd]
  apply cI D
  cases hm:(mT (Lo g out z) (g.nd z).o==0)
  have e:iS g V out z=out:=by grind[iS]
  rw[e]at w
  simp only[go_sem,hm,N]
  exact⟨row.length-(i+1),o_,i+1,o_,rfl,_,k,by rw[w];exact m _,_,od,rfl⟩
  have e:iS g V out z=out++[z]:=by grind[iS]
  rw[e]at w
  simp only[go_sem,aZ,cP,fF,oX,sW,eB,jC,dM,sY,Nat.reduceAdd,hm,N,m,aP,R,Q]
  refine⟨row.length-(i+1),o_,i+1,o_,rfl,_,X.length+(X2.length+3),?_,_,.inr rfl,rfl⟩
  rw[w,bZ]
  exact TB kv
end
def byO(o:OpM):Option Int:=if o.Kind==1 then some o.By else if o.Kind==2||o.Kind==13 then some o.Device else none
def kV(g:PGM)(out:B_)(x:Id):B_:=match byO (g.nd x).o with|some d=>if d∈out then out else out++[d]|none=>out
def BQ(g:PGM)(l:D_):B_:=(eO g l).foldl (kV g) []
def Vf{g:PGM}{out:B_}{x:Id}:(kV g out x).length<=out.length+1:=by grind[kV]
def TD{g:PGM}:∀(l:D_)(out:B_),(l.foldl (kV g) out).length<=out.length+l.length|[],_=>by simp|x::l,out=>by have:=TD (g:=g) l (kV g out x);have h:=Vf (g:=g) (out:=out) (x:=x);simp_all;omega
def aEL(T X:aK)(out:B_):Prop:=∃k,X[0]?=some (some (.box [.own (T.length+k)]))/\X[k]?=some (some (.arr 1 (out.map λn=>[iv n])))/\k≠0/\k≠2/\k≠4
section
variable{T:aK}{p:Nat×Nat×Nat}{g:PGM}
def aIN (h:GAt T p g) (hg:g.ok) (l o:D_) (hO:aA PQ G mJ [.ptr 0 0,ids l] (TG 0 g) λr s=>r=ids o/\s=TG 0 g) (cE:∀x∈o,x∈g.I) (af:o.length<=1000):aA PQ G uX [.ptr p.1 0,ids l] T λr s=>r=rG (o.foldl (kV g) [])/\s=T:=by
 have ad:∀X:aK,aA PQ G mJ [.ptr p.1 0,ids l] (T++X) λr s=>r=ids o/\s=T++X:=λX=>(h.app (X:=X)).lift (by simp only[xF,Bd,gL0 (h.app (X:=X)),ids]) rfl hO;refine(aA.keepLs (q:=λk es=>k=1/\es=((o.foldl (kV g) [])).map λn=>[iv n]) (fT JD ?_)).mono ?_;rotate_left;simp;simp only[go_sem,aD,cU,eB,jC,dM];refine F4 (post:=λy s=>y=.cl CH [.ptr (T.length+2) 0,.ptr (T.length+3) 0]/\s=T++[some (.box [.own (T.length+1)]),some (.arr 1 []),some (.box [.ptr p.1 0]),some (.box [ids l])]) (aB _) (fT Og ?_) ?_;simp only[go_sem,eB,jC,dM,dZ,sE,gQ];rintro y s ⟨rfl,rfl⟩;simp only[go_sem];refine NX rfl (vZ Cy) λr k1 k2 hy R=>?_;simp only[go_sem,eB,jC,dM];refine F4 (post:=λ_ s=>∃X:aK,s=T++X/\aEL T X ((o.foldl (kV g) []))/\X[4]?=some (some (.lp r [(5,.ptr T.length 0)]))) (aB _) (fT Cy ?_) ?_
 ·simp only[go_sem,nY];apply cI (ad _);simp only[go_sem,ids,aP]
  refine kL (λn st=>∃i,i<=o.length/\n=o.length-i/\∃X:aK,aEL T X ((o.take i).foldl (kV g) [])/\X[2]?=some (some (.box [.ptr p.1 0]))/\X[4]?=some (some (.lp r [(5,.ptr T.length 0)])) /\
   st=⟨T.length+5,[(13,iv i),(12,iv o.length),(11,ids o),(0,.yl (T.length+4)),(1,.ptr (T.length+2) 0)],T++X⟩) o.length ⟨0,pR _,rfl,_,⟨1,rfl,rfl,d_⟩,rfl,rfl,rfl⟩ ?_
  rintro n st ⟨i,hi,ah,X,⟨k,O,J,m,u,j⟩,x2,F,rfl⟩;rcases eD i o.length with t|aj;rotate_left;obtain rfl:i=o.length:=o_;rw[dE]at J;simp only[go_sem,aS (bP _)];exact⟨X,rfl,⟨k,O,J,m,u,j⟩,F⟩;have ws:=fQ i o_;have ab:=cE _ (eQ t);have g0:(o.map Id.A)[i]?=some o[i].A:=aO _ o i t;have ft:(o.take (i+1)).foldl (kV g) []=kV g ((o.take i).foldl (kV g) []) o[i]:=by rw[lB t,Hy];rfl
  have ae:((o.take i).foldl (kV g) []).length<=1000:=by have:=TD (g:=g) (o.take i) [];simp_all;omega
  generalize(o.take i).foldl (kV g) []=out at *
  have w:=λX=>S5 (G:=G) (h.app (X:=X)) hg o[i] ab;simp only[Id.A_def]at w;generalize hz:o[i]=z at *
  have l4:=dB F;have y0:=λY:aK=>aF (X:=Y) O;have N:=λY:aK=>aF (X:=Y) x2;have M:=λY:aK=>aF (X:=Y) F;have yk:=λY:aK=>aF (X:=Y) J;simp only[go_sem,aT t,g0,ids,nY,N];apply cI (w _);simp only[go_sem,nY];have ac:byO (g.nd z).o=if(g.nd z).o.Kind==1 then some (g.nd z).o.By else if(g.nd z).o.Kind==2||(g.nd z).o.Kind==13 then some (g.nd z).o.Device else none:=rfl
  generalize he:(g.nd z).o=q at *
  let e:Int->B_:=λd=>if d∈out then out else out++[d]
  have f:∀(W:aK)(d:Int)(K:AV->aK->Prop),(∀E:aK,aEL T E (e d)->E[2]?=some (some (.box [.ptr p.1 0]))->E[4]?=some (some (.lp r [(5,.ptr T.length 0)]))->K (.v (.bool true)) (T++E)) ->
    @aAb PQ G (T.length+4) [.ag [iv z.a,iv z.b,.v (.int .u64 z.c)],iv d] (T++(X++W)) ⟨K⟩:=by
   intro W d K L;apply R _ _ _ _ _ (kU (by rw[aZ];exact M _)) rfl;have w0:∀Y:aK,((X++W).set 4 none++Y)[0]?=some (some (.box [.own (T.length+k)])):=λY=>aF (by rw[aY d_];exact y0 _);have w2:∀Y:aK,((X++W).set 4 none++Y)[2]?=some (some (.box [.ptr p.1 0])):=λY=>aF (by rw[aY d_];exact N _);have wk:∀Y:aK,((X++W).set 4 none++Y)[k]?=some (some (.arr 1 (out.map λn=>[iv n]))):=λY=>aF (by rw[aY (Ne.symm j)];exact yk _);have w4:∀Y:aK,((X++W).set 4 none++Y)[4]?=some none:=λY=>aF (dS (M W));have D:=w0 [];have C:=w4 [];have S:=w2 [];have B:=wk [];rw[jO]at D C S B;simp only[go_sem,cP,fF];generalize(X++W).set 4 none=Z at *
   simp only[go_sem,D];have aa:xG (T++Z) [.own (T.length+k),iv d]=[rG out,iv d]:=by simp only[xG,tB,kU (show(T++Z)[T.length+k]?=_ by rw[aZ];exact B)]
   apply iJ (aB _) aa rfl (VF out d o_);have ak:=dB C;by_cases H:d∈out;have V:e d=out:=m_;rw[V]at L;simp only[go_sem,H,decide_true,cP];refine L _ ⟨k,?_,?_,m,u,j⟩ ?_ ?_;simp_all;grind;simp_all;exact dS C;have V:e d=out++[d]:=m_;rw[V]at L;have ol:out.length+1<=maxLen/\(out.length+1)*8<=140737488355328:=g_;have ai:=dB B;have Q:=λW:aK=>(aY (T:=Z++W) (o:=none) m).trans (w0 W);have P:=λW W':aK=>aF (X:=W') (Q W);simp only[go_sem,H,decide_false,aZ,cP,fF,iR,D,P,wk,ol.1,ol.2,aP,eB];refine L _ ⟨Z.length+1,?_,?_,o_,o_,o_⟩ ?_ ?_;simp;grind;grind;grind
  have nG:∀d,byO q=some d->kV g out z=e d:=λd H=>by simp only[kV,he,H,e]
  have U:byO q=none->kV g out z=out:=λH=>by simp only[kV,he,H]
  rcases hq1:q.Kind==1 with _|_;simp only[go_sem];rcases hq2:q.Kind==2 with _|_;rcases hq3:q.Kind==13 with _|_;simp only[go_sem,hq3];rw[ws];refine⟨_,(by omega:o.length-(i+1)<n),i+1,o_,rfl,_,?_,N _,M _,rfl⟩;rw[ft,U (by rw[ac,hq1,hq2,hq3];rfl)];exact⟨k,y0 _,yk _,m,u,j⟩;simp only[go_sem,hq3,nY];refine f _ _ _ λE a0 a2 a4=>?_;simp only[go_sem];grind;simp only[go_sem,nY];refine f _ _ _ λE a0 a2 a4=>?_;simp only[go_sem];grind;simp only[go_sem,nY];refine f _ _ _ λE a0 a2 a4=>?_;simp only[go_sem];grind
 rintro y s ⟨X,rfl,⟨k,O,J,m,u,j⟩,F⟩;have l3:=dB F;have z0:(X.set 4 none)[0]?=some (some (.box [.own (T.length+k)])):=u_;simp only[go_sem,aZ,cP,fF,F,k1,k2,aFa,z0];grind
def aBq(h:GAt T p g)(b:g.ok)(l:D_)(e:∀x∈l,x∈g.I)(d:l.Nodup)(a:l.length<=1000):aA PQ G uX [.ptr p.1 0,ids l] T λr f=>r=rG (BQ g l)/\f=T :=
 aIN h b l _ (ZK g b l d o_) (λx c=>e x ((mE g l).mem_iff.1 c)) (by rw[(mE g l).length_eq];exact a)
end
end Hud
