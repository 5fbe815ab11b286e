import Derived.Test.YtlhonkjgkfdnmaaGreatDoorLib37
import Derived.Test.YtlhonkjgkfdnmaaGreatDoorLib38
set_option linter.all false
set_option maxHeartbeats 40000000
namespace Hud
open Go
variable{G:L_}
section
variable{T:aK}
def Lp(x y:Id):aA PQ G pG [.ag x.A,.ag y.A] [] λr T=>r=iv (Wi x y)/\T=[]:=by refine aC Hi ?_;simp only[go_sem,Id.A_def];apply cX (Cm x y);simp only[go_sem];refine aL (λh=>?_) (λh=>?_);simp only[go_sem,Wi,h];simp only[go_sem];apply cX (Cm y x);simp only[go_sem];refine aL (λh2=>?_) (λh2=>?_)<;>simp only[go_sem,Wi,h,h2]
def aGn(l:D_)(f:l.length<2^62):aA PQ G bK [.own 0,.cl pG []] [some (.arr 3 (l.map Id.A))] λr T=>r=.tup []/\T=[some (.arr 3 ((sQ l).map Id.A))]:=by
 have a:∀x y:Id,Go.Proofs.ltOf Wi x y=x.lt y:=by grind[Go.Proofs.ltOf,Wi]
 have:=SW (k:=3) (enc:=Id.K) Go.Proofs.Tryz.laysSort Go.Proofs.Tryz.isAgg41 Go.Proofs.Tryz.sizeOf41 (λ_=>rfl) (λx v b=>by simp[Id.K]at b;rcases b with rfl|rfl|rfl<;>rfl)
  (λx c d=>by simp[cellsOf,Id.K]at d;rcases d with rfl|rfl|rfl<;>rfl) (cf:=Wi)
  ⟨λx=>by rw[a,Id.lt_irrefl],λx y z h1 h2=>by rw[a]at *;exact Id.lt_trans h1 h2,λx y z h1 h2=>by rw[a]at *;exact Id.nlt_trans h1 h2⟩
  (λx y h1 h2=>by rw[a]at *;exact Id.lt_total h1 h2) (g:=pG) (Go.Proofs.enters_of Go.Proofs.Tryz.func327 k_ rfl) (Go.Proofs.enters_of Go.Proofs.Tryz.func259 k_ rfl) (G:=G) Lp l f
 have e:(λx y:Id=>!(Go.Proofs.ltOf Wi y x))=λx y=>!(y.lt x):=by funext x y;rw[a]
 rw[e]at this;exact this
def Zg(k:Nat):TO [k] k=some 0:=by simp[TO,List.idxOf?,List.findIdx?_cons]
def Zh{k q:Nat}{es:N_}(a:T[k]?=some (some (.arr q es))):GX [k] T=[some (.arr q es)]:=by simp only[GX,fG,uP,kU a,H6,YQ]
def G5{k:Nat}{l:D_}(a:T[k]?=some (some (.arr 3 (l.map Id.A))))(c:l.length<2^62):
 aA PQ G wN [.own k] T λr b=>r=.own k/\b=T.set k (some (.arr 3 ((sQ l).map Id.A))):=by
 apply fT KB;simp only[go_sem];apply aG [k] (aB _) s_ (by simpa using dB a) (by simp only[xF,Bd,Zg]) (Zh a) (aGn l c);rintro r b ⟨rfl,rfl⟩;simp only[go_sem,IF,DC]
def PN(l:D_)(d a b:Int):D_:=l.filter λx=>x.a==d&&(decide (a<=x.b)&&decide (x.b<=b))
def aBu (l:D_) (B:l.length<=1000) (d a b:Int):aA PQ G Jp [ids l,iv d,iv a,iv b] T λr v=>r=ids (sQ (PN l d a b))/\v=T:=by
 refine(aA.keepLs (q:=λk y=>k=3/\y=(sQ (PN l d a b)).map Id.A) (fT Sw ?_)).mono ?_;rotate_left;simp;simp only[go_sem,ids,aP]
 refine kL (λn t=>∃i,i<=l.length/\n=l.length-i/\∃(X:aK)(k:Nat),X[k]?=some (some (.arr 3 ((PN (l.take i) d a b).map Id.A))) /\
  ∃S,(S=[(14,iv i),(13,iv l.length),(12,ids l),(9,.own (T.length+k)),(1,iv d),(2,iv a),(3,iv b)]\/S=[(14,iv i),(9,.own (T.length+k)),(13,iv l.length),(12,ids l),(1,iv d),(2,iv a),(3,iv b)])/\t=⟨T.length,S,T++X⟩) l.length ⟨0,pR _,rfl,_,0,rfl,_,.inl rfl,rfl⟩ ?_
 rintro n t ⟨i,C,w,X,k,j,S,u,rfl⟩;rcases eD i l.length with c|x;rotate_left
 ·obtain rfl:i=l.length:=o_;rw[dE]at j;have h:(PN l d a b).length<2^62:=by grind[PN]
  have g:=G5 (G:=G) (T:=T++X) (k:=T.length+k) (by rw[aZ];exact j) h;rcases u with rfl|rfl
  all_goals (
   simp only[go_sem,aS (bP _)]
   apply jA g
   rintro r v ⟨rfl,rfl⟩
   simp only[go_sem,cP]
   exact⟨aH,_,3,_,rfl,o_,by rw[aZ];exact dS j,rfl,rfl⟩)
 have m:=fQ i o_;have o:(l.map Id.A)[i]?=some l[i].A:=aO _ l i c;have f:PN (l.take (i+1)) d a b=PN (l.take i) d a b++if(l[i].a==d&&(decide (a<=l[i].b)&&decide (l[i].b<=b)))=true then [l[i]] else []:=by rw[lB c,PN,Mf,List.filter_cons,List.filter_nil];rfl
 have h:(PN (l.take i) d a b).length<=1000:=by grind[List.length_take,PN]
 generalize PN (l.take i) d a b=out at *
 generalize l[i]=z at *
 have e:=λY:aK=>aF (X:=Y) j;have s:out.length+1<=maxLen:=g_;have p:(out.length+1)*24<=140737488355328:=o_;rcases u with rfl|rfl
 all_goals (
  cases c1:z.a==d
  rw[c1,lR,if_neg d_,jO]at f
  simp only[go_sem,aT c,o,c1,ids,m,undef,nY]
  exact⟨l.length-(i+1),o_,i+1,o_,rfl,_,k,by rw[f];exact e _,_,oo,rfl⟩
  cases c2:decide (a<=z.b)
  rw[c1,c2,lR,Ea,if_neg d_,jO]at f
  simp only[go_sem,aT c,o,c1,c2,ge_iff_le,ids,m,undef,nY]
  exact⟨l.length-(i+1),o_,i+1,o_,rfl,_,k,by rw[f];exact e _,_,oo,rfl⟩
  cases c3:decide (z.b<=b)
  rw[c1,c2,c3,Ea,Ea,if_neg d_,jO]at f
  simp only[go_sem,aT c,o,c1,c2,c3,ge_iff_le,ids,m,undef,nY]
  exact⟨l.length-(i+1),o_,i+1,o_,rfl,_,k,by rw[f];exact e _,_,oo,rfl⟩
  rw[c1,c2,c3,yH,yH,if_pos rfl]at f
  simp only[go_sem,aP,aT c,o,c1,c2,c3,ge_iff_le,ids,m,undef,e,s,p,nY]
  refine⟨l.length-(i+1),o_,i+1,o_,rfl,_,X.length+2,?_,_,.inr rfl,rfl⟩
  rw[f,bZ]
  exact TB k0)
end
def RZ(S:List ((Int×Int)×Int))(bs:V_)(cl:Nat):AObj:=.map true (S.map λe=>[.int .i64 e.1.1,.int .i64 e.1.2]) (S.map λe=>iv e.2) bs cl
def wM(S:List ((Int×Int)×Int))(k:Int×Int):Int:=match S.findIdx? (λe=>decide (e.1=k)) with|some j=>(S.getD j default).2|none=>0
def oW(S:List ((Int×Int)×Int))(k:Int×Int)(x:Int):List ((Int×Int)×Int):=match S.findIdx? (λe=>decide (e.1=k)) with|some j=>S.set j (k,x)|none=>S++[(k,x)]
def K9(L:List (Int×Int))(x:Id):Bool:=match L.findIdx? (λe=>x.a==e.1) with|some j=>decide (x.b<(L.getD j (0,0)).2)|none=>true
def pM(s:List ((Int×Int)×Int)×List (Int×Int))(x:Id):List ((Int×Int)×Int)×List (Int×Int):=
 (oW s.1 (x.a,x.b) (wM s.1 (x.a,x.b)+1),if wM s.1 (x.a,x.b)+1<2 then s.2 else if K9 s.2 x=true then nZ s.2 x.a x.b else s.2)
def mX(l:D_):List ((Int×Int)×Int)×List (Int×Int):=l.foldl pM ([],[])
def D9(k:Int×Int):∀(S:List ((Int×Int)×Int))(i:Nat),eR [.int .i64,.int .i64] [.int .i64 k.1,.int .i64 k.2] (S.map λe=>[.int .i64 e.1.1,.int .i64 e.1.2]) i=some ((S.findIdx? λe=>decide (e.1=k)).map (· + i))
 |[],i=>rfl
 | e::S,i=>by
  simp only[fG,eR,rJ,and_self,if_true,yH,List.findIdx?_cons];have:=D9 k S (i+1);have a:(k.1==e.1.1&&k.2==e.1.2)=decide (e.1=k):=m_;by_cases h:e.1=k;simp_all;rw[decide_eq_false h]at a⊢;simp only[a,this,jJ,if_false]
  cases S.findIdx? (λe=>decide (e.1=k)) with
  |none=>rfl
  |some j=>simp;omega
def aKO{bs:V_}(h:bs.Nodup){j:Nat}(a:j<bs.length):bs.findIdx? (λb:Nat=>(b:Int)==(bs[j]:Int))=some j:=by
 rw[Ad];refine⟨a,s_,λi c=>?_⟩;have:bs[i]≠bs[j]:=λe=>by have:=(C9 (h₀:=o_) (h₁:=a) h).1 e;omega
 simp_all;omega
def aBv(S:List ((Int×Int)×Int))(k:Int×Int){bs:V_}{cl:Nat}(d:Bs S.length bs cl):
 (∃(j:Nat)(g:j<bs.length),eR [.int .i64,.int .i64] [.int .i64 k.1,.int .i64 k.2] (S.map λe=>[.int .i64 e.1.1,.int .i64 e.1.2]) 0=some (some j)/\(S.map λe=>iv e.2)[j]?=some (iv (wM S k))/\bs.findIdx? (λb:Nat=>(b:Int)==(bs[j]:Int))=some j /\
  (∀x,AObj.map true (S.map λe=>[.int .i64 e.1.1,.int .i64 e.1.2]) ((S.map λe=>iv e.2).set j (iv x)) bs cl=RZ (oW S k x) bs cl/\Bs (oW S k x).length bs cl)) \/
 (eR [.int .i64,.int .i64] [.int .i64 k.1,.int .i64 k.2] (S.map λe=>[.int .i64 e.1.1,.int .i64 e.1.2]) 0=some none/\wM S k=0 /\
  (∀x,AObj.map true ((S.map λe=>[.int .i64 e.1.1,.int .i64 e.1.2])++[[.int .i64 k.1,.int .i64 k.2]]) ((S.map λe=>iv e.2)++[iv x]) (bs++[cl]) (cl+1)=RZ (oW S k x) (bs++[cl]) (cl+1)/\Bs (oW S k x).length (bs++[cl]) (cl+1))):=by
 have c:=D9 k S 0
 cases e:S.findIdx? (λe=>decide (e.1=k)) with
 |none=>
  rw[e]at c;refine .inr ⟨c,by rw[wM,e],λx=>?_⟩;have h:oW S k x=S++[(k,x)]:=by rw[oW,e]
  rw[h];refine⟨by simp[RZ],?_⟩;rw[dZ];exact d.suc
 | some j=>
  rw[e]at c;obtain⟨g,f,_⟩:=Ad.1 e;have a:j<bs.length:=by rw[d.len];exact g
  refine .inl ⟨j,a,c,?_,aKO d.nd a,λx=>?_⟩;grind[wM];have h:oW S k x=S.set j (k,x):=by rw[oW,e]
  rw[h,cL];refine⟨?_,d⟩;rw[RZ,Ba,Ba];congr 1;have i:k=S[j].1:=(of_decide_eq_true f).symm;rw[i];exact(BE (λe:(Int×Int)×Int=>[Value.int .i64 e.1.1,Value.int .i64 e.1.2]) S j g).symm
def aIP{S:List ((Int×Int)×Int)}{k a:Int×Int}{x:Int}{j:Nat}(h:S.findIdx? (λe=>decide (e.1=k))=some j):(S.set j (k,x)).findIdx? (λe=>decide (e.1=a))=S.findIdx? (λe=>decide (e.1=a)):=by
 obtain⟨f,d,_⟩:=Ad.1 h;have b:∀L:List ((Int×Int)×Int),L.findIdx? (λe=>decide (e.1=a))=(L.map (·.1)).findIdx? (λc=>decide (c=a)):=λL=>by rw[List.findIdx?_map];rfl
 rw[b,b,Ba];congr 1;have:=BE (λe:(Int×Int)×Int=>e.1) S j f;simp_all
def aEO (S:List ((Int×Int)×Int)) (k a:Int×Int) (x:Int):wM (oW S k x) a=if a=k then x else wM S a:=by
 cases e:S.findIdx? (λe=>decide (e.1=k)) with
 | some j=>
  obtain⟨l,f,_⟩:=Ad.1 e;have d:oW S k x=S.set j (k,x):=by rw[oW,e]
  rw[d,wM,aIP e];by_cases b:a=k;simp_all;rw[if_neg b,wM]
  cases c:S.findIdx? (λe=>decide (e.1=a)) with
  |none=>rfl|some i=>
   obtain⟨h,g,_⟩:=Ad.1 c;grind
 | none=>
  have d:oW S k x=S++[(k,x)]:=by rw[oW,e]
  rw[d,wM,List.findIdx?_append];by_cases b:a=k;grind;rw[if_neg b,wM]
  cases c:S.findIdx? (λe=>decide (e.1=a)) with
  |none=>
   grind
  |some i=>
   obtain⟨h,_,_⟩:=Ad.1 c;grind
def TJ(k:Int×Int):∀(l:D_)(s:List ((Int×Int)×Int)×List (Int×Int)),wM (l.foldl pM s).1 k=wM s.1 k+(l.countP λx=>decide ((x.a,x.b)=k):Nat)|[],s=>by simp|x::l,s=>by rw[CW,TJ k l,List.countP_cons,pM,aEO];grind
def aBw{S:List (Int×Int)}{d x:Int}(h:(S.map (·.1)).Nodup):((nZ S d x).map (·.1)).Nodup:=by
 unfold nZ
 cases e:S.findIdx? (λe=>d==e.1) with
 |none=>
  grind
 |some j=>
  obtain⟨b,a,_⟩:=Ad.1 e;grind[List.map_set]
def JU:∀(l:D_)(s:List ((Int×Int)×Int)×List (Int×Int)),(s.2.map (·.1)).Nodup->((l.foldl pM s).2.map (·.1)).Nodup|[],_,h=>h| x::l,s,h=>by rw[CW];apply JU l _;rw[pM];dsimp only;split;exact h;split;exact aBw h;exact h
def Ka:∀(l:D_)(s:List ((Int×Int)×Int)×List (Int×Int)),(l.foldl pM s).2.length<=s.2.length+l.length
 |[],_=>by simp
 | x::l,s=>by
  rw[CW,sE];have h1:=Ka l (pM s x);have h2:(pM s x).2.length<=s.2.length+1:=by rw[pM];dsimp only;split;omega;split;exact Xt;omega
  omega
def fA(f:Int×Int):O_:=[iv f.1,iv f.2]
section
variable{T:aK}{p:Nat×Nat×Nat}{g:PGM}
def aBx(x y:Int×Int):aA PQ G qT [.ag (fA x),.ag (fA y)] [] λr T=>r=iv (wG x.1 y.1)/\T=[]:=by refine aC JE ?_;simp only[go_sem,fA];apply cX (kB x.1 y.1);simp only[go_sem]
def aGo (out:List (Int×Int)) (t:(out.map (·.1)).Nodup) (C:out.length<=1000):aA PQ G jR [.own 0,.cl qT []] [some (.arr 2 (out.map fA))] λr T=>r=.tup []/\∃s:List (Int×Int),s.Perm out/\T=[some (.arr 2 (s.map fA))]:=by
 let α:={f:Int×Int // f∈out\/(out=[]/\f=(0,0))}
 have:Inhabited α:=⟨if h:out=[] then⟨(0,0),.inr ⟨h,rfl⟩⟩ else⟨out.head h,.inl (List.head_mem h)⟩⟩
 let cf:α->α->Int:=λx y=>wG x.1.1 y.1.1;have a:∀x y:α,Go.Proofs.ltOf cf x y=decide (x.1.1<y.1.1):=by intro x y;unfold Go.Proofs.ltOf;show decide (wG x.1.1 y.1.1<0)=_;rw[decide_eq_decide];exact aCX ..
 have d:=SW (α:=α) (k:=2) (enc:=λc=>[.int .i64 c.1.1,.int .i64 c.1.2]) Go.Proofs.Tryz.laysSortF Go.Proofs.Tryz.isAgg320 Go.Proofs.Tryz.sizeOf320 (λ_=>rfl) (λx v p=>by simp at p;rcases p with rfl|rfl<;>rfl)
  (λx c q=>by simp[cellsOf]at q;rcases q with rfl|rfl<;>rfl) (cf:=cf)
  ⟨λx=>by rw[a];simp,λx y z h1 h2=>by rw[a]at *;simp at *;omega,λx y z h1 h2=>by rw[a]at *;simp at *;omega⟩
  (λx y h1 h2=>by
   rw[a]at *
   simp at h1 h2;apply Subtype.ext;rcases x.2 with n|⟨n,o⟩
   rcases y.2 with b|⟨b,l⟩
   have A:x.1.1=y.1.1:=o_;obtain⟨i,w,m⟩:=List.mem_iff_getElem.1 n;obtain⟨j,u,e⟩:=List.mem_iff_getElem.1 b;have:i=j:=(C9 (xs:=out.map (·.1)) (h₀:=by simpa using w) (h₁:=by simpa using u) t).1 (by rw[zL,zL,m,e,A]);subst this;rw[<-m,<-e];exact absurd b (List.ne_nil_of_mem n);rcases y.2 with b|⟨b,l⟩
   exact absurd n (List.ne_nil_of_mem b)
   rw[o,l]) (g:=qT) (Go.Proofs.enters_of Go.Proofs.Tryz.func326 k_ rfl) (Go.Proofs.enters_of Go.Proofs.Tryz.func325 k_ rfl) (G:=G) (λx y=>aBx x.1 y.1) (out.attach.map λx=>⟨x.1,.inl x.2⟩) (by rw[aP,List.length_attach];omega)
 have B:(out.attach.map λx=>(⟨x.1,.inl x.2⟩:α)).map (cellsOf λc:α=>[.int .i64 c.1.1,.int .i64 c.1.2])=out.map fA:=by rw[rI,show((cellsOf λc:α=>[.int .i64 c.1.1,.int .i64 c.1.2])∘λx:{x // x∈out}=>(⟨x.1,.inl x.2⟩:α))=fA∘Subtype.val from rfl,<-rI,X4]
 rw[B]at d;apply d.mono;rintro r D ⟨rfl,rfl⟩;refine⟨rfl,((out.attach.map λx=>(⟨x.1,.inl x.2⟩:α)).mergeSort λx y=>!(Go.Proofs.ltOf cf) y x).map Subtype.val,?_,?_⟩;refine((H4 _ _).map Subtype.val).trans (.of_eq ?_);rw[rI,show(Subtype.val∘λx:{x // x∈out}=>(⟨x.1,.inl x.2⟩:α))=Subtype.val from rfl,X4];rw[rI];rfl
theorem aGp(hd:AV)(l:D_)(hl:l.length<=1000):aA PQ G DQ [hd,ids l] T λr T'=>(∃K:List (Int×Int),K.Perm (mX l).2/\r=.ls 2 (K.map fA))/\T'=T:=by
 refine(aA.keepLs (q:=λk es=>k=2/\∃K:List (Int×Int),K.Perm (mX l).2/\es=K.map fA) (fT Ld ?_)).mono ?_;rotate_left;simp_all;simp only[go_sem,ids,aP,nY]
 refine kL (λn P=>∃(i:Nat)(bs c:V_)(cl d:Nat)(Y:aK),i<=l.length/\n=l.length-i/\Bs (mX (l.take i)).1.length bs cl/\Bs (mX (l.take i)).2.length c d /\
   P=⟨T.length,[(19,iv i),(18,iv l.length),(17,ids l),(6,.mp (T.length+1)),(5,.mp T.length)],T++some (RZ (mX (l.take i)).1 bs cl)::some (AO (mX (l.take i)).2 c d)::Y⟩) l.length ⟨0,[],[],0,0,[],pR _,rfl,⟨rfl,by simp,by simp⟩,⟨rfl,by simp,by simp⟩,rfl⟩ ?_
 rintro n P ⟨i,bs,c,cl,d,Y,hi,af,F,f,rfl⟩;rcases eD i l.length with o|ao;have g0:(l.map Id.A)[i]?=some l[i].A:=aO _ l i o;have O:=fQ i (by omega);have t:mX (l.take (i+1))=pM (mX (l.take i)) l[i]:=by rw[lB o,mX,Hy];rfl
 have hc:0<=wM (mX (l.take i)).1 (l[i].a,l[i].b)/\wM (mX (l.take i)).1 (l[i].a,l[i].b)<=1000:=by have h1:=TJ (l[i].a,l[i].b) (l.take i) ([],[]);have h2:=List.countP_le_length (p:=λx:Id=>decide ((x.a,x.b)=(l[i].a,l[i].b))) (l:=l.take i);rw[eC]at h2;unfold mX;rw[h1];have:wM (([]:List ((Int×Int)×Int)),([]:List (Int×Int))).1 (l[i].a,l[i].b)=0:=rfl;omega
 generalize au:mX (l.take i)=s0 at *
 obtain⟨S,L⟩:=s0;simp only at F f hc;generalize l[i]=z at *
 rw[show RZ S bs cl=AObj.map true (S.map λe=>[.int .i64 e.1.1,.int .i64 e.1.2]) (S.map λe=>iv e.2) bs cl from rfl,show AO L c d=AObj.map false (L.map λe=>iK e.1) (L.map λe=>iv e.2) c d from rfl];have wc:IntKind.i64.wrap (wM S (z.a,z.b)+1)=wM S (z.a,z.b)+1:=aJ (by omega) (by omega);rcases aBv S (z.a,z.b) F with⟨j,hj,w,C,D,g⟩|⟨w,C,g⟩
 have an:j<(S.map λe=>iv e.2).length:=by grind
 have u:∀y:AV,((S.map λe=>iv e.2).set j y)[j]?=some y:=λy=>by rw[List.getElem?_set_self an]
 have E:bs[j]?=some bs[j]:=jN hj;by_cases h2:wM S (z.a,z.b)+1<2;have nG:pM (S,L) z=(oW S (z.a,z.b) (wM S (z.a,z.b)+1),L):=by grind[pM]
 simp only[go_sem,ids,aT o,g0,O,w,C,D,E,u,wc,h2,decide_true,nY];exact⟨_,(by omega:l.length-(i+1)<n),i+1,_,c,_,d,_,by omega,rfl,by rw[t,nG];exact(g _).2,by rw[t,nG];exact f,by rw[t,nG,<-(g _).1];rfl⟩;have s:=KY L z.a;rw[show iK z.a=[.int .i64 z.a] from rfl]at s;rcases TF L z.a z.b f with⟨Q,M,ay,N,H⟩|⟨M,N,H⟩
 rw[M]at s;have hf:L.findIdx? (λe=>z.a==e.1)=some Q:=by simpa using s.symm
 have gv:(L.map λe=>iv e.2)[Q]?=some (iv (L.getD Q (0,0)).2):=by simp_all
 have ak:K9 L z=decide (z.b<(L.getD Q (0,0)).2):=by rw[K9,hf]
 by_cases h3:z.b<(L.getD Q (0,0)).2;have nG:pM (S,L) z=(oW S (z.a,z.b) (wM S (z.a,z.b)+1),nZ L z.a z.b):=by grind[pM]
 simp only[go_sem,ids,aT o,g0,O,w,C,D,E,u,wc,h2,h3,M,gv,decide_true,decide_false,undef,nY];exact⟨_,(by omega:l.length-(i+1)<n),i+1,_,_,_,_,_,by omega,rfl,by rw[t,nG];exact(g _).2,by rw[t,nG];exact H,by rw[t,nG,<-(g _).1,<-N]⟩;have nG:pM (S,L) z=(oW S (z.a,z.b) (wM S (z.a,z.b)+1),L):=by grind[pM,Bool.false_eq_true]
 simp only[go_sem,ids,aT o,g0,O,w,C,D,E,u,wc,h2,h3,M,gv,decide_false,undef,nY];exact⟨_,(by omega:l.length-(i+1)<n),i+1,_,c,_,d,_,by omega,rfl,by rw[t,nG];exact(g _).2,by rw[t,nG];exact f,by rw[t,nG,<-(g _).1];rfl⟩;rw[M]at s;have hf:L.findIdx? (λe=>z.a==e.1)=none:=by simpa using s.symm
 have ak:K9 L z=true:=by rw[K9,hf]
 have nG:pM (S,L) z=(oW S (z.a,z.b) (wM S (z.a,z.b)+1),nZ L z.a z.b):=by grind[pM]
 simp only[go_sem,ids,aT o,g0,O,w,C,D,E,u,wc,h2,M,decide_false,undef,nY];exact⟨_,(by omega:l.length-(i+1)<n),i+1,_,_,_,_,_,by omega,rfl,by rw[t,nG];exact(g _).2,by rw[t,nG];exact H,by rw[t,nG,<-(g _).1,<-N]⟩;have ap:=MV F.lt;have ad:=λy:AV=>JM (x:=AV.v (.int .i64 0)) (y:=y) (show(S.map λe=>iv e.2).length=bs.length by rw[aP,F.len]);have al:eR [.int .i64,.int .i64] [.int .i64 z.a,.int .i64 z.b] ((S.map λe=>[.int .i64 e.1.1,.int .i64 e.1.2])++[[.int .i64 z.a,.int .i64 z.b]]) 0=some (some S.length):=by have h1:=D9 (z.a,z.b) (S++[((z.a,z.b),1)]) 0;have h2:=D9 (z.a,z.b) S 0;grind
 have u:∀y:AV,((S.map λe=>iv e.2)++[y])[S.length]?=some y:=λy=>by simp
 have w1:IntKind.i64.wrap (0+1)=1:=by decide
 have nG:pM (S,L) z=(oW S (z.a,z.b) 1,L):=by grind[pM]
 simp only[go_sem,ids,aT o,g0,O,w,ap,ad,al,u,nY];exact⟨_,(by omega:l.length-(i+1)<n),i+1,_,c,_,d,_,by omega,rfl,by rw[t,nG];exact(g 1).2,by rw[t,nG];exact f,by rw[t,nG,<-(g 1).1];rfl⟩
 ·obtain rfl:i=l.length:=by omega
  rw[dE]at F f⊢;have J:=Ka l ([],[]);have I:=JU l ([],[]) (by simp);rw[show l.foldl pM ([],[])=mX l from rfl]at J I;simp only[gQ,pQ]at J;generalize mX l=s0 at *
  obtain⟨S,L⟩:=s0;simp only at F f J I;rw[show AO L c d=AObj.map false (L.map λe=>iK e.1) (L.map λe=>iv e.2) c d from rfl];simp only[go_sem,aS (bP _),nY]
  refine kL (λn P=>∃(aAD:V_)(out:List (Int×Int)),aAD.Nodup/\(∀b∈aAD,b∈c)/\n=c.length-aAD.length/\out.Perm (((L.zip c).filter λq=>decide (q.2∈aAD)).map (·.1)) /\
   ∃(Z:aK)(k m:Nat),Z[1]?=some (some (AObj.map false (L.map λe=>iK e.1) (L.map λe=>iv e.2) c d))/\Z[k]?=some (some (.arr 2 (out.map fA)))/\Z[m]?=some (some (.mit (some (T.length+1)) d aAD d)) /\
    ∃Sl,(Sl=[(60,.ptr (T.length+m) 0),(12,.own (T.length+k))]\/Sl=[(12,.own (T.length+k)),(60,.ptr (T.length+m) 0)])/\P=⟨T.length,Sl,T++Z⟩) c.length
   ⟨[],[],by simp,by simp,rfl,by simp,_,Y.length+2,Y.length+3,rfl,by rw[oX,oX,aD];rfl,by rw[oX,oX,aR],_,.inl rfl,rfl⟩ ?_
  clear F af ao hi;rintro n P ⟨aAD,out,ah,R,hn,hJ,Z,k,m,z1,zk,zm,Sl,ar,rfl⟩;rcases ar with rfl|rfl
  all_goals (
   simp only[go_sem]
   refine VD (i:=T.length+m) (j:=T.length+1) (kU (by rw[aZ];exact zm)) (kU (by rw[aZ];exact z1)) (cN _) f.lt (by simp[f.len]) (by simp[f.len]) (λV=>?_) λe N U=>?_
   have cE:out.Perm L:=by
    refine hJ.trans (.of_eq ?_);have e1:(L.zip c).map (·.1)=L:=by rw[List.map_fst_zip];have:=f.len;omega
    conv=>rhs;rw[<-e1]
    refine congrArg _ (Gm.2 λq hq=>?_);have:q.2∈aAD:=V _ (List.of_mem_zip (show(q.1,q.2)∈L.zip c from hq)).2;simp[this]
   simp only[go_sem]
   refine aG [T.length+k] (aB _) (by simp) (by simpa using dB zk) (by simp only[xF,Bd,Zg]) (Zh (by rw[aZ];exact zk)) (aGo out ((cE.map _).nodup_iff.2 I) (by rw[cE.length_eq];omega)) ?_
   rintro r T' ⟨rfl,K,s,rfl⟩
   simp only[go_sem,IF,DC,cP]
   exact⟨aH,_,2,_,rfl,by omega,by rw[aZ];exact dS zk,rfl,K,s.trans cE,rfl⟩
   have az:e<L.length:=by have:=f.len;omega
   have aq:=VE f.nd N
   have gk:(L.map λe=>iK e.1)[e]?=some (iK L[e].1):=by simp_all
   have gv:(L.map λe=>iv e.2)[e]?=some (iv L[e].2):=by simp_all
   have aj:m≠k:=by grind
   have aw:m≠1:=by grind
   have am:k≠1:=by grind
   have y1:(Z.set m (some (.mit (some (T.length+1)) d (aAD++[c[e]]) d)))[1]?=some (some (AObj.map false (L.map λe=>iK e.1) (L.map λe=>iv e.2) c d)):=by simp_all
   have yk:(Z.set m (some (.mit (some (T.length+1)) d (aAD++[c[e]]) d)))[k]?=some (some (.arr 2 (out.map fA))):=by simp_all
   have ym:(Z.set m (some (.mit (some (T.length+1)) d (aAD++[c[e]]) d)))[m]?=some (some (.mit (some (T.length+1)) d (aAD++[c[e]]) d)):=dS zm
   generalize hY:Z.set m (some (.mit (some (T.length+1)) d (aAD++[c[e]]) d))=W at y1 yk ym
   have ol:out.length+1<=maxLen/\(out.length+1)*16<=140737488355328:=by have h1:=hJ.length_eq;rw[aP]at h1;have h2:=List.length_filter_le (λq:(Int×Int)×Nat=>decide (q.2∈aAD)) (L.zip c);rw[List.length_zip]at h2;unfold maxLen;omega
   have aa:=λX:aK=>aF (X:=X) yk
   simp only[go_sem,aZ,cP,hY,ym,y1,Ke,aq,gk,gv,iY,aa,aP,ol.1,ol.2,nY]
   have B:(aAD++[c[e]]).Nodup/\(∀b∈aAD++[c[e]],b∈c)/\c.length-(aAD++[c[e]]).length<n:=by
    have ai:(aAD++[c[e]]).Nodup:=vQ.2 ⟨ah,by simp,λx hx y hy e'=>U (by rw[cA]at hy;rw[<-hy,<-e'];exact hx)⟩;have B:∀b∈aAD++[c[e]],b∈c:=λb F=>(cG.1 F).elim (R b) λh=>by rw[cA.1 h];exact eQ N
    have ax:=List.Nodup.length_le_of_subset ai B;simp_all;omega
   have ae:(out++[L[e]]).Perm (((L.zip c).filter λq=>decide (q.2∈aAD++[c[e]])).map (·.1)):=by
    have ab:(L[e],c[e])∈L.zip c:=by grind[List.mem_iff_getElem,List.length_zip]
    have ac:(L.zip c).map (·.2)=c:=by rw[List.map_snd_zip];have:=f.len;omega
    have:=(D8 (by rw[ac];exact f.nd) ab U).map (·.1);grind
   have av:=dB ym
   refine⟨_,B.2.2,_,out++[L[e]],B.1,B.2.1,rfl,ae,_,W.length+1,m,?_,?_,?_,_,.inr rfl,rfl⟩
   refine aF ?_
   rw[aY am]
   exact aF y1
   rw[bZ]
   exact TB (by simp only[cL,dZ,sE,gQ])
   refine aF ?_
   rw[aY (Ne.symm aj)]
   exact aF ym)
def aIQ(x:AV)(l:D_)(w:l.length<=1000):aA PQ G Bh [x,ids l] T λr u=>(∃a:List (Int×Int),a.Perm (mX l).2/\r=ids (sQ (a.flatMap λf=>sQ (PN l f.1 f.2 4611686018427387904))))/\u=T:=by
 refine(aA.keepLs (q:=λk L=>k=3/\∃a:List (Int×Int),a.Perm (mX l).2/\L=(sQ (a.flatMap λf=>sQ (PN l f.1 f.2 4611686018427387904))).map Id.A) (fT Oc ?_)).mono ?_;rotate_left;simp_all;simp only[go_sem,nY];apply jA (aGp x l w);rintro y u ⟨⟨a,h,rfl⟩,M⟩;obtain rfl:=M.symm;simp only[go_sem,aP];have E:a.length<=1000:=by rw[h.length_eq];have:=Ka l ([],[]);rw[show l.foldl pM ([],[])=mX l from rfl]at this;simp_all;omega
 have b:∀f:Int×Int,(sQ (PN l f.1 f.2 4611686018427387904)).length<=1000:=λf=>by grind[W9,PN]
 generalize I:(λf:Int×Int=>sQ (PN l f.1 f.2 4611686018427387904))=F at *
 have j:∀f:Int×Int,sQ (PN l f.1 f.2 4611686018427387904)=F f:=λf=>by rw[<-I]
 simp only[j]at b;have t:∀a:List (Int×Int),(a.flatMap F).length<=a.length*1000:=by
  intro a
  induction a with
  |nil=>simp|cons f a ih=>
   grind
 refine kL (λn v=>∃i,i<=a.length/\n=a.length-i/\∃(X:aK)(k:Nat),X[k]?=some (some (.arr 3 (((a.take i).flatMap F).map Id.A))) /\
  ∃S,(S=[(12,iv i),(11,iv a.length),(10,.ls 2 (a.map fA)),(5,.own (T.length+k)),(1,ids l)]\/S=[(12,iv i),(5,.own (T.length+k)),(11,iv a.length),(10,.ls 2 (a.map fA)),(1,ids l)])/\v=⟨T.length,S,T++X⟩) a.length ⟨0,pR _,rfl,_,0,rfl,_,.inl rfl,rfl⟩ ?_
 rintro n v ⟨i,N,C,X,k,m,S,z,rfl⟩;rcases eD i a.length with c|D;rotate_left
 ·obtain rfl:i=a.length:=o_;rw[dE]at m;have e:(a.flatMap F).length<2^62:=by have:=t a;omega
  have d:=G5 (G:=G) (T:=T++X) (k:=T.length+k) (by rw[aZ];exact m) e;rcases z with rfl|rfl
  all_goals (
   simp only[go_sem,aS (bP _)]
   apply jA d
   rintro r u ⟨rfl,rfl⟩
   simp only[go_sem,cP]
   exact⟨aH,_,3,_,rfl,o_,by rw[aZ];exact dS m,rfl,a,h,rfl⟩)
 have B:=fQ i o_;have J:(a.map fA)[i]?=some [iv a[i].1,iv a[i].2]:=by rw[gE,jN c];rfl
 have K:(a.take (i+1)).flatMap F=(a.take i).flatMap F++F a[i]:=by rw[lB c,List.flatMap_append];simp
 have e:((a.take i).flatMap F).length<=1000000:=m_;have g:=λX:aK=>aBu (G:=G) (T:=X) l w a[i].1 a[i].2 4611686018427387904;rw[j]at g;have H:=b a[i];generalize(a.take i).flatMap F=out at *
 have o:=λY:aK=>aF (X:=Y) m;have s:out.length+(F a[i]).length<=maxLen:=g_;have p:(out.length+(F a[i]).length)*24<=140737488355328:=o_;rcases z with rfl|rfl
 all_goals (
  simp only[go_sem,aT c,J,nY]
  apply cI (g _)
  simp only[go_sem,ids,aP,B,o,s,p,nY]
  refine⟨a.length-(i+1),o_,i+1,o_,rfl,_,X.length+1,?_,_,.inr rfl,rfl⟩
  rw[K,bZ]
  exact TB k0)
end
def Kb(l:D_)(d s:Int):Prop:=2<=l.countP λx=>decide ((x.a,x.b)=(d,s))
def aIR{L:List (Int×Int)}(h:(L.map (·.1)).Nodup){d s s':Int}(h1:(d,s)∈L)(h2:(d,s')∈L):s=s':=by obtain⟨i,b,e⟩:=List.mem_iff_getElem.1 h1;obtain⟨j,a,c⟩:=List.mem_iff_getElem.1 h2;have:i=j:=(C9 (xs:=L.map (·.1)) (h₀:=T_) (h₁:=ov) h).1 (by rw[zL,zL,e,c]);simp_all
def EA{L:List (Int×Int)}(h:(L.map (·.1)).Nodup){a s0 d s:Int}:(d,s)∈nZ L a s0↔(d=a/\s=s0)\/(d≠a/\(d,s)∈L):=by
 unfold nZ
 cases e:L.findIdx? (λe=>a==e.1) with
 |none=>
  grind
 | some j=>
  obtain⟨k,c,_⟩:=Ad.1 e;have n:a=L[j].1:=ox;show(d,s)∈L.set j (a,s0)↔_;rw[List.mem_iff_getElem?];constructor;rintro⟨i,b⟩;rw[Hx]at b;split at b;simp_all;rename_i f;have m:=Kd b;refine .inr ⟨λe=>f ?_,m⟩;obtain⟨g,l⟩:=sV.1 b;exact((C9 (xs:=L.map (·.1)) (h₀:=kv) (h₁:=by simpa using k) h).1 (by rw[zL,zL,l,<-n,e])).symm;rintro(⟨rfl,rfl⟩|⟨h1,h2⟩);exact⟨j,by rw[Hx,if_pos rfl,if_pos k]⟩;obtain⟨i,b,l⟩:=List.mem_iff_getElem.1 h2;refine⟨i,?_⟩;grind
def Ra{L:List (Int×Int)}(h:(L.map (·.1)).Nodup)(x:Id):K9 L x=true↔∀s,(x.a,s)∈L->x.b<s:=by
 unfold K9
 cases e:L.findIdx? (λe=>x.a==e.1) with
 |none=>
  grind
 |some j=>
  obtain⟨i,c,_⟩:=Ad.1 e;have k:x.a=L[j].1:=ox;have d:(x.a,L[j].2)∈L:=m_;have g:(L.getD j (0,0)).2=L[j].2:=h_;simp only[g,decide_eq_true_iff];exact⟨λh1 s f=>by rw[aIR h f d];exact h1,λh1=>h1 _ d⟩
def Rb:∀(n:Nat)(l:D_),l.length=n->(∀d s,(d,s)∈(mX l).2->Kb l d s)/\∀d s,Kb l d s->∃f,f<=s/\(d,f)∈(mX l).2
 |0,l,h=>by
  grind[mX,Kb]
 | n+1,l,h=>by
  obtain⟨c,x,rfl⟩:∃c x,l=c++[x]:=⟨l.dropLast,l.getLast (by rintro rfl;simp at h),(List.dropLast_concat_getLast _).symm⟩
  have h0:c.length=n:=w_;obtain⟨v,u⟩:=Rb n c h0;have e:=JU c ([],[]) s_;have w:=TJ (x.a,x.b) c ([],[]);rw[show c.foldl pM ([],[])=mX c from rfl]at e w;have r:wM (([]:List ((Int×Int)×Int)),([]:List (Int×Int))).1 (x.a,x.b)=0:=rfl;rw[r,Int.zero_add]at w;have E:mX (c++[x])=pM (mX c) x:=by rw[mX,Hy];rfl
  have C:∀d s,(c++[x]).countP (λx=>decide ((x.a,x.b)=(d,s)))=c.countP (λx=>decide ((x.a,x.b)=(d,s)))+if(x.a,x.b)=(d,s) then 1 else 0:=λd s=>s_
  have j:∀d s,¬(x.a,x.b)=(d,s)->(Kb (c++[x]) d s↔Kb c d s):=λd s B=>by simp_all[Kb,mG]
  have g:∀d s,Kb c d s->Kb (c++[x]) d s:=λd s m=>by grind[Kb]
  have q:Kb (c++[x]) x.a x.b↔¬wM (mX c).1 (x.a,x.b)+1<2:=by grind[Kb]
  rw[E,pM];generalize mX c=z at *
  obtain⟨S,L⟩:=z;dsimp only at *
  by_cases h2:wM S (x.a,x.b)+1<2;grind;rw [if_neg h2];by_cases h3:K9 L x=true;rw[if_pos h3];have D:=(Ra e x).1 h3;refine⟨λd s p=>?_,λd s m=>?_⟩;rcases(EA e).1 p with⟨rfl,rfl⟩|⟨_,t⟩
  exact q.2 h2;exact g _ _ (v d s t);by_cases i:(x.a,x.b)=(d,s)
  obtain⟨rfl,rfl⟩:=Prod.mk.inj i;exact⟨x.b,Int.le_refl _,(EA e).2 (.inl ⟨rfl,rfl⟩)⟩;obtain⟨f,t,y⟩:=u d s ((j d s i).1 m);by_cases k:d=x.a;subst k;have:=D f y;exact⟨x.b,o_,(EA e).2 (.inl ⟨rfl,rfl⟩)⟩;exact⟨f,t,(EA e).2 (.inr ⟨k,y⟩)⟩;rw[if_neg h3];refine⟨λd s p=>g _ _ (v d s p),λd s m=>?_⟩;by_cases i:(x.a,x.b)=(d,s)
  obtain⟨rfl,rfl⟩:=Prod.mk.inj i;rw[Ra e]at h3;apply QB;intro o;refine h3 λs A=>?_;apply QB;intro F;exact o ⟨s,o_,A⟩;exact u d s ((j d s i).1 m)
def Vi{l:D_}(p:l.Nodup){d s:Int}:Kb l d s↔∃y∈l,∃z∈l,y≠z/\(y.a,y.b)=(d,s)/\(z.a,z.b)=(d,s):=by
 unfold Kb;rw[List.countP_eq_length_filter];have f:(l.filter λx=>decide ((x.a,x.b)=(d,s))).Nodup:=p.sublist List.filter_sublist;constructor;intro h;have j:(l.filter λx=>decide ((x.a,x.b)=(d,s)))[0]∈l.filter λx=>decide ((x.a,x.b)=(d,s)):=eQ _;have i:(l.filter λx=>decide ((x.a,x.b)=(d,s)))[1]∈l.filter λx=>decide ((x.a,x.b)=(d,s)):=eQ _;refine⟨_,(gR.1 j).1,_,(gR.1 i).1,λe=>?_,of_decide_eq_true (gR.1 j).2,of_decide_eq_true (gR.1 i).2⟩;have:=(C9 (h₀:=o_) (h₁:=o_) f).1 e;omega;rintro⟨y,o,z,n,g,h1,h2⟩;have m:y∈l.filter λx=>decide ((x.a,x.b)=(d,s)):=gR.2 ⟨o,decide_eq_true h1⟩;have k:z∈l.filter λx=>decide ((x.a,x.b)=(d,s)):=gR.2 ⟨n,decide_eq_true h2⟩;have h3:[y,z].Nodup:=by simp[g]
 exact List.Nodup.length_le_of_subset h3 (λw c=>by
  rcases cS.1 c with rfl|c;exact m
  rw[cA.1 c];exact k)
def aBy{l:D_}(g:l.Nodup)(x:Id):B8 l x=true↔∃s,(x.a,s)∈(mX l).2/\s<=x.b:=by
 obtain⟨m,k⟩:=Rb _ l rfl;have n:B8 l x=true↔∃y∈l,∃z∈l,y≠z/\y.a=x.a/\z.a=x.a/\y.b=z.b/\y.b<=x.b:=by unfold B8;simp only[CX,zJ,EX,decide_eq_false_iff_not,beq_iff_eq,decide_eq_true_iff]
 rw[n];constructor;rintro⟨y,e,z,d,c,h1,h2,h3,i⟩;obtain⟨j,h,f⟩:=k x.a y.b ((Vi g).2 ⟨y,e,z,d,c,by rw[h1],by rw[h2,h3]⟩);exact⟨j,f,o_⟩;rintro⟨s,h1,h2⟩;obtain⟨y,e,z,d,c,h3,i⟩:=(Vi g).1 (m _ _ h1);obtain⟨h,f⟩:=Prod.mk.inj h3;obtain⟨p,o⟩:=Prod.mk.inj i;exact⟨y,e,z,d,c,h,p,by rw[f,o],o_⟩
def Zi{l:D_}(i:l.Nodup)(F:Int×Int->D_)(c:∀f,(F f).Perm (PN l f.1 f.2 4611686018427387904)):∀d:List (Int×Int),(d.map (·.1)).Nodup->(d.flatMap F).Nodup|[],_=>by simp|f::d,h=>by rw[fG,BU]at h;rw[List.flatMap_cons,vQ];refine⟨(c f).nodup_iff.2 (i.sublist List.filter_sublist),Zi i F c d h.2,λa m b k e=>?_⟩;subst e;obtain⟨n,j,g⟩:=H7.1 k;have h1:=(gR.1 ((c f).mem_iff.1 m)).2;have h2:=(gR.1 ((c n).mem_iff.1 g)).2;simp_all
def aEP(G:L_):TI G:=by
 intro T p g l h u j q;have k:l.length<=1000:=by have:=List.Nodup.length_le_of_subset j q;have h2:=u.ok.n;grind[PGM.I,List.length_map]
 refine(aIQ (.ptr p.1 0) l k).mono ?_;rintro r z ⟨⟨e,c,rfl⟩,rfl⟩;have o:∀f:Int×Int,(sQ (PN l f.1 f.2 4611686018427387904)).Perm (PN l f.1 f.2 4611686018427387904):=λf=>H4 _ _;have m:(e.map (·.1)).Nodup:=(c.map _).nodup_iff.2 (JU l ([],[]) s_);have t:(sQ (e.flatMap λf=>sQ (PN l f.1 f.2 4611686018427387904))).Perm (e.flatMap λf=>sQ (PN l f.1 f.2 4611686018427387904)):=H4 _ _;refine⟨⟨_,λx=>?_,t.nodup_iff.2 (Zi j _ o e m),rfl⟩,rfl⟩;rw[t.mem_iff,H7,aBy j];constructor;rintro⟨f,y,d⟩;have h1:=gR.1 ((o f).mem_iff.1 d);grind;rintro⟨d,s,h1,h2⟩;refine⟨(x.a,s),c.mem_iff.2 h1,(o _).mem_iff.2 (gR.2 ⟨d,?_⟩)⟩;have v:x.b<=2^62:=by obtain⟨w,i,rfl⟩:=dF.1 (q x d);exact u.idb _ i
 simp_all
def LA{g:PGM}{V W:D_}(h:∀x,x∈V↔x∈W)(row:D_):mW g V row=mW g W row:=by unfold mW;congr 1;grind[iS]
theorem BR{V:D_}{x y:Id}:x∈AQ V y↔x∈V\/x=y:=by grind[AQ]
def PK{V W:D_}(h:∀x,x∈V↔x∈W)(y:Id):∀x,x∈AQ V y↔x∈AQ W y:=λx=>by rw[BR,BR,h]
def Fs{p:Id->Bool}:∀(row V W:D_),(∀x,x∈V↔x∈W)->∀x,x∈row.foldl (λV y=>if p y=true then AQ V y else V) V↔x∈row.foldl (λV y=>if p y=true then AQ V y else V) W|[],_,_,h=>h|y::row,V,W,h=>by rw[CW,CW];apply Fs row _ _;split;exact PK h y;exact h
def Ft{g:PGM}{row:D_}{S:List (Int×Int)}:∀(n:Nat)(V W left:D_),(∀x,x∈V↔x∈W)->∀x,x∈uL g row S n V left↔x∈uL g row S n W left
 |0,_,_,_,h=>h
 | n+1,V,W,left,h=>by
  have a:left.filter (λx=>!decide (x∈V))=left.filter λx=>!decide (x∈W):=List.filter_congr λx _=>by simp only[h]
  rw[uL,uL,a,LA h];dsimp only;split;exact h;split;exact Ft n _ _ _ (Fs (p:=λy=>lA g _ y||(decide (y∈_)&&B7 g row _ y)) row V W h);exact Ft n _ _ _ (PK h _)
def Xw{g:PGM}{row V W:D_}(h:∀x,x∈V↔x∈W):∀x,x∈sU g row V↔x∈sU g row W:=Ft _ _ _ _ h
def zH(l:D_):D_:=l.filter (B8 l)
def kW(g:PGM)(l:D_):D_:=mW g (sU g (eO g l) (zH l)) (eO g l)
def Rc{l V:D_}(h:∀x,x∈V↔x∈l/\B8 l x=true):∀x,x∈V↔x∈zH l:=λx=>by rw[h,zH,gR]
def PL{g:PGM}{l V:D_}(h:∀x,x∈V↔x∈l/\B8 l x=true):mW g (sU g (eO g l) V) (eO g l)=kW g l:=LA (Xw (Rc h)) _
def aGq{g:PGM}{l V:D_}(h:∀x,x∈V↔x∈l/\B8 l x=true)(x:Id):Gk g l V x=Gk g l (zH l) x:=by unfold Gk;rw[PL h];have h1:mW g (sU g (eO g l) (zH l)) (eO g l)=kW g l:=rfl;rw[h1];simp only[Rc h]
section
variable{T:aK}{p:Nat×Nat×Nat}{g:PGM}
def Vj(j:AK G)(h:GAt T p g)(f:GGood g){l:D_}(c:∀x∈l,x∈g.I)(e:l.Nodup):
 aA PQ G pN [.ptr p.1 0,ids l] T λr a=>r=ids (kW g l)/\a=T :=
 (aEN j (aEP G) h f c e).mono λr a ⟨⟨V,i,d⟩,b⟩=>⟨by rw[d,PL i],b⟩
def aHg(j:AK G)(h:GAt T p g)(f:GGood g){l:D_}(c:∀x∈l,x∈g.I)(e:l.Nodup)(x:Id):
 aA PQ G wB [.ptr p.1 0,ids l,.ag x.A] T λr a=>r=iv (Gk g l (zH l) x)/\a=T :=
 (aKN j (aEP G) h f c e x).mono λr a ⟨⟨V,i,d⟩,b⟩=>⟨by rw[d,aGq i],b⟩
end
def aKQ(g:PGM)(l:D_):D_:=mW g (uL g l (Xu 0 (l.foldl (kV g) []) (KZ g.cards)) l.length (zH l) (l.filter λx=>jM (g.nd x).o)) l
def aGr{g:PGM}{l:D_}(h:eO g l=l):kW g l=aKQ g l:=by unfold kW sU aBt BQ aKQ;simp only[h]
abbrev RK:=Id×Int×List UInt8
def rkK(r:RK):C_:=[.int .i64 r.1.a,.int .i64 r.1.b,.int .u64 r.1.c,.int .i64 r.2.1,stV r.2.2]
def aQa(o:OpM):List UInt8:=o.Body.map UInt8.ofNat
def aJF(g:PGM)(o:OpM):RK:=(o.Of,(gM g.cards o.By).1.Member,aQa o)
def aOM{α:Type}[DecidableEq α](l:List α)(x:α):List α:=if x∈l then l else l++[x]
def aE2(g:PGM)(H:List RK)(x:Id):List RK:=if(g.nd x).o.Kind=7 then aOM H (aJF g (g.nd x).o) else H
def aH9(g:PGM)(l:D_):List RK:=l.foldl (aE2 g) []
def aBE(g:PGM)(l:D_)(x:Id):Bool:=l.any λy=>decide ((g.nd y).o.Kind=8)&&decide ((g.nd y).o.Of=x)
def aBB(g:PGM)(l:D_)(x:Id):List (List UInt8):=((aH9 g l).filter λr=>decide (r.1=x)).map λr=>r.2.2
structure LnM where
 id:Id
 er:Bool
 re:List (List UInt8)
 deriving DecidableEq
def aBA(g:PGM)(l:D_):List LnM:=(l.filter λx=>decide ((g.nd x).o.Kind=6)).map λx=>⟨x,aBE g l x,aJ5 (aBB g l x)⟩
def aIE(g:PGM)(l:D_)(x:Id):aH9 g (l++[x])=aE2 g (aH9 g l) x:=by simp[aH9]
def aJ6(g:PGM)(l:D_)(x y:Id):aBE g (l++[x]) y=(aBE g l y||(decide ((g.nd x).o.Kind=8)&&decide ((g.nd x).o.Of=y))):=by simp[aBE]
def aON(g:PGM)(l:D_):(aH9 g l).length<=l.length:=by
 suffices ∀(l:D_)(H:List RK),(l.foldl (aE2 g) H).length<=H.length+l.length from by have:=this l [];rw[gQ,pQ]at this;exact this
 intro l
 induction l with
 |nil=>simp| cons x l ih=>
  intro H;have:=ih (aE2 g H x);have h2:(aE2 g H x).length<=H.length+1:=by unfold aE2 aOM;split<;>(try split)<;>simp
  simp only[CW,sE];omega
def aKH(g:PGM)(l:D_)(x:Id):(aBB g l x).length<=l.length:=by have:=aON g l;have h2:=List.length_filter_le (λr:RK=>decide (r.1=x)) (aH9 g l);unfold aBB;rw[aP];omega
def aNT(s:List UInt8):(ByteArray.mk s.toArray).toList=s:=by rw[ByteArray.toList_eq]
def aQb(x y:RK):rJ [.int .i64,.int .i64,.int .u64,.int .i64,.str] (rkK x) (rkK y)=some (decide (y=x)):=by obtain⟨⟨a,b,c⟩,m,s⟩:=x;obtain⟨⟨h,g,f⟩,e,d⟩:=y;simp only[rkK,rJ,aNT,and_self,if_true,E_,yH];rw[CT];simp;grind
def aNU(x:RK):∀(I:List RK)(i:Nat),eR [.int .i64,.int .i64,.int .u64,.int .i64,.str] (rkK x) (I.map rkK) i=some ((I.findIdx? λy=>decide (y=x)).map (· + i))|[],_=>rfl|y::I,i=>by have:=aNU x I (i+1);simp only[fG,eR,aQb,List.findIdx?_cons];by_cases h:y=x;subst h;simp;have h2:decide (y=x)=false:=decide_eq_false h;simp only[h2,this];cases I.findIdx? λy=>decide (y=x)<;>simp[Nat.add_comm,Nat.add_left_comm]
def xM(b:Int):OpM:=⟨b,0,6,0,[],0,0,0,0,[],⟨1,1,1⟩,0,[49,50,51,52,53,54,55,56],[],⟨0,0,0⟩,[],0,0,[],0,[],0,0⟩
def xR(b:Int)(w:V_)(m:Id):OpM:=⟨b,0,7,0,[],0,0,0,0,[],⟨0,0,0⟩,0,w,[],m,[],0,0,[],0,[],0,0⟩
def xE(b:Int)(m:Id):OpM:=⟨b,0,8,0,[],0,0,0,0,[],⟨0,0,0⟩,0,[],[],m,[],0,0,[],0,[],0,0⟩
def aLv{g a:GM}{o p:OpM}{X:D_}(h1:aH8 g o X=p)(h2:addM g (cM p)=(a,0)):aBC g o X=a:=by rw[aBC,h1,h2]
def mI5:Id:=⟨2,1,1798794189532183979⟩
def mI6:Id:=⟨1,5,548419328182983003⟩
def mI7:Id:=⟨4,1,383351798349107441⟩
def mI8:Id:=⟨2,2,2257656765706603275⟩
def mP5:OpM:=⟨2,1,6,0,[lI4],0,0,0,0,[],⟨1,1,1⟩,0,[49,50,51,52,53,54,55,56],[],⟨0,0,0⟩,[],0,0,[],0,[],0,0⟩
def mO5:OpM:=⟨2,1,6,0,[lI4],0,0,0,0,[],⟨1,1,1⟩,0,[49,50,51,52,53,54,55,56],[],⟨0,0,0⟩,[],0,0,[],0,[],1577018746915295281,584496235993808402⟩
def mG5:GM:=⟨qB,[PI,TQ,Xo,lO4,mO5],[ZZ,lI2,lI3,lI4,mI5],[[],[0],[1],[2],[3]],[[false,false,false,false,false],[true,false,false,false,false],[true,true,false,false,false],[true,true,true,false,false],[true,true,true,true,false]]⟩
def mS5:cM mP5=mO5:=db
def mA5:addM lG4 (cM mP5)=(mG5,0):=by refine KX (c:=⟨2,2,1810974450540283748,732551293757751401,86482453431610406⟩) (up:=[3]) mS5 k_ ?_ k_ k_ d_ k_ k_ k_;rw[show mP5.By.toNat=2 from rfl,PH _ (lG _ _)];kernel_rfl
def mB5:aBC lG4 (xM 2) lG4.I=mG5:=aLv k_ mA5
def mP6:OpM:=⟨1,5,7,0,[mI5],0,0,0,0,[],⟨0,0,0⟩,0,[97],[],mI5,[],0,0,[],0,[],0,0⟩
def mO6:OpM:=⟨1,5,7,0,[mI5],0,0,0,0,[],⟨0,0,0⟩,0,[97],[],mI5,[],0,0,[],0,[],1285171461243023659,71838084242604637⟩
def mG6:GM:=⟨qB,[PI,TQ,Xo,lO4,mO5,mO6],[ZZ,lI2,lI3,lI4,mI5,mI6],[[],[0],[1],[2],[3],[4]],[[false,false,false,false,false,false],[true,false,false,false,false,false],[true,true,false,false,false,false],[true,true,true,false,false,false],[true,true,true,true,false,false],[true,true,true,true,true,false]]⟩
def mS6:cM mP6=mO6:=db
def mA6:addM mG5 (cM mP6)=(mG6,0):=by refine KX (c:=⟨1,1,1858807316446646070,2294458496254976924,1058522930688824048⟩) (up:=[4]) mS6 k_ ?_ k_ k_ d_ k_ k_ k_;rw[show mP6.By.toNat=1 from rfl,PH _ (lG _ _)];kernel_rfl
def mB6:aBC mG5 (xR 1 [97] mI5) mG5.I=mG6:=aLv k_ mA6
def mP7:OpM:=⟨4,1,7,0,[mI6],0,0,0,0,[],⟨0,0,0⟩,0,[97],[],mI5,[],0,0,[],0,[],0,0⟩
def mO7:OpM:=⟨4,1,7,0,[mI6],0,0,0,0,[],⟨0,0,0⟩,0,[97],[],mI5,[],0,0,[],0,[],537783825892024920,1444463286988180289⟩
def mG7:GM:=⟨qB,[PI,TQ,Xo,lO4,mO5,mO6,mO7],[ZZ,lI2,lI3,lI4,mI5,mI6,mI7],[[],[0],[1],[2],[3],[4],[5]],[[false,false,false,false,false,false,false],[true,false,false,false,false,false,false],[true,true,false,false,false,false,false],[true,true,true,false,false,false,false],[true,true,true,true,false,false,false],[true,true,true,true,true,false,false],[true,true,true,true,true,true,false]]⟩
def mS7:cM mP7=mO7:=db
def mA7:addM mG6 (cM mP7)=(mG7,0):=by refine KX (c:=⟨4,1,1953319703317080786,881125215762738857,1828901513722737251⟩) (up:=[5]) mS7 k_ ?_ k_ k_ d_ k_ k_ k_;rw[show mP7.By.toNat=4 from rfl,PH _ (lG _ _)];kernel_rfl
def mB7:aBC mG6 (xR 4 [97] mI5) mG6.I=mG7:=aLv k_ mA7
def mP8:OpM:=⟨2,2,8,0,[mI7],0,0,0,0,[],⟨0,0,0⟩,0,[],[],mI5,[],0,0,[],0,[],0,0⟩
def mO8:OpM:=⟨2,2,8,0,[mI7],0,0,0,0,[],⟨0,0,0⟩,0,[],[],mI5,[],0,0,[],0,[],1176690414484693744,1571314912442827672⟩
def mG8:GM:=⟨qB,[PI,TQ,Xo,lO4,mO5,mO6,mO7,mO8],[ZZ,lI2,lI3,lI4,mI5,mI6,mI7,mI8],[[],[0],[1],[2],[3],[4],[5],[6]],[[false,false,false,false,false,false,false,false],[true,false,false,false,false,false,false,false],[true,true,false,false,false,false,false,false],[true,true,true,false,false,false,false,false],[true,true,true,true,false,false,false,false],[true,true,true,true,true,false,false,false],[true,true,true,true,true,true,false,false],[true,true,true,true,true,true,true,false]]⟩
def mS8:cM mP8=mO8:=db
def mA8:addM mG7 (cM mP8)=(mG8,0):=by refine KX (c:=⟨2,2,1810974450540283748,732551293757751401,86482453431610406⟩) (up:=[6]) mS8 k_ ?_ k_ k_ d_ k_ k_ k_;rw[show mP8.By.toNat=2 from rfl,PH _ (lG _ _)];kernel_rfl
def mB8:aBC mG7 (xE 2 mI5) mG7.I=mG8:=aLv k_ mA8
def aQe{o:OpM}(h1:∀n∈[o.By,o.Seq,o.Kind,o.At,o.Device,o.Old,o.Member,o.Role,o.N,o.Need,o.Wait],mZ n)(h2:o.Pub=0/\o.SR=0/\o.SS=0)(h3:o.Epoch.ok)(f:o.Of.ok)(e:o.Past=[]/\o.Path=[]/\o.Refs=[]/\o.Guards=[]/\o.Boxes=[]/\o.Hist=[])(d:o.Body.length<=1000/\xN o.Body):o.ok:=by obtain⟨c,b,a⟩:=h2;obtain⟨l,k,j,i,h,g⟩:=e;exact⟨h1,by rw[c,b,a];simp,h3,f,by rw[l];simp,by rw[k];simp,d,by rw[j];simp,by rw[i];simp,by rw[h];simp,by rw[g];simp⟩
def aPX{b:Int}(h:mZ b):(xM b).ok:=by
 have z:mZ 0:=⟨d_,d_⟩
 have s:mZ 6:=⟨d_,d_⟩
 exact aQe (by simp[xM,h,z,s]) ⟨rfl,rfl,rfl⟩ (show(⟨1,1,1⟩:Id).ok from⟨⟨d_,d_⟩,⟨d_,d_⟩,d_,d_⟩) id0 ⟨rfl,rfl,rfl,rfl,rfl,rfl⟩ ⟨by simp[xM],by simp[xM,xN]⟩
def aO5{b:Int}{w:V_}{m:Id}(h:mZ b)(a:w.length<=1000/\xN w)(c:m.ok):(xR b w m).ok:=by
 have z:mZ 0:=⟨d_,d_⟩
 have s:mZ 7:=⟨d_,d_⟩
 exact aQe (by simp[xR,h,z,s]) ⟨rfl,rfl,rfl⟩ id0 c ⟨rfl,rfl,rfl,rfl,rfl,rfl⟩ a
def aOP{b:Int}{m:Id}(h:mZ b)(a:m.ok):(xE b m).ok:=by
 have z:mZ 0:=⟨d_,d_⟩
 have s:mZ 8:=⟨d_,d_⟩
 exact aQe (by simp[xE,h,z,s]) ⟨rfl,rfl,rfl⟩ id0 a ⟨rfl,rfl,rfl,rfl,rfl,rfl⟩ ⟨by simp[xE],by simp[xE,xN]⟩
def okS{n:Int}(h:0<=n/\n<=1000):mZ n:=⟨o_,o_⟩
def aK6:mI5.ok:=⟨⟨d_,d_⟩,⟨d_,d_⟩,d_,d_⟩
def mR5:Reach bQ mG5:=mB5 ▸ aGf lR4 lR4.hyp6.1 (aPX (okS d_)) _ lR4.seqb
def mR6:Reach bQ mG6:=mB6 ▸ aGf mR5 mR5.hyp6.1 (aO5 (okS d_) ⟨d_,by simp[xN]⟩ aK6) _ mR5.seqb
def mR7:Reach bQ mG7:=mB7 ▸ aGf mR6 mR6.hyp6.1 (aO5 (okS d_) ⟨d_,by simp[xN]⟩ aK6) _ mR6.seqb
def mR8:Reach bQ mG8:=mB8 ▸ aGf mR7 mR7.hyp6.1 (aOP (okS d_) aK6) _ mR7.seqb
def mQ(k:Nat):PGM:=⟨qB,([⟨PI,ZZ,[0,0,0,0],1⟩,⟨TQ,lI2,[1,0,0,0],2⟩,⟨Xo,lI3,[3,0,0,0],3⟩,⟨lO4,lI4,[7,0,0,0],4⟩,⟨mO5,mI5,[15,0,0,0],5⟩,⟨mO6,mI6,[31,0,0,0],6⟩,⟨mO7,mI7,[63,0,0,0],7⟩,⟨mO8,mI8,[127,0,0,0],8⟩]:List ND).take k⟩
def aPY:AM bQ mG8.L=mQ 8:=by have a:=(mR8.good rY).all;have b:=mR8.checked;have j:(sR (AM bQ []) PI).2=0:=a 0 d_;have i:(sR (AM bQ [PI]) TQ).2=0:=a 1 d_;have h:(sR (AM bQ [PI,TQ]) Xo).2=0:=a 2 d_;have g:(sR (AM bQ [PI,TQ,Xo]) lO4).2=0:=a 3 d_;have f:(sR (AM bQ [PI,TQ,Xo,lO4]) mO5).2=0:=a 4 d_;have e:(sR (AM bQ [PI,TQ,Xo,lO4,mO5]) mO6).2=0:=a 5 d_;have d:(sR (AM bQ [PI,TQ,Xo,lO4,mO5,mO6]) mO7).2=0:=a 6 d_;have c:(sR (AM bQ [PI,TQ,Xo,lO4,mO5,mO6,mO7]) mO8).2=0:=a 7 d_;have r:AM bQ []=mQ 0:=lQ0;have q:AM bQ [PI]=mQ 1:=pO1 r j (b PI go) k_;have p:AM bQ [PI,TQ]=mQ 2:=pO1 q i (b TQ go) k_;have o:AM bQ [PI,TQ,Xo]=mQ 3:=pO1 p h (b Xo go) k_;have n:AM bQ [PI,TQ,Xo,lO4]=mQ 4:=pO1 o g (b lO4 go) k_;have m:AM bQ [PI,TQ,Xo,lO4,mO5]=mQ 5:=pO1 n f (b mO5 go) k_;have l:AM bQ [PI,TQ,Xo,lO4,mO5,mO6]=mQ 6:=pO1 m e (b mO6 go) k_;have k:AM bQ [PI,TQ,Xo,lO4,mO5,mO6,mO7]=mQ 7:=pO1 l d (b mO7 go) k_;exact pO1 k c (b mO8 go) k_
def aR0:eO (mQ 8) mG8.I=mG8.I:=by unfold eO;exact List.mergeSort_of_pairwise d5
def aR1:kW (mQ 8) mG8.I=mG8.I:=(aGr aR0).trans k_
def aR2:aBA (mQ 8) mG8.I=[⟨mI5,true,[[97]]⟩]:=by
 have h1:(mG8.I.filter λx=>decide (((mQ 8).nd x).o.Kind=6))=[mI5]:=k_;have h2:aBB (mQ 8) mG8.I mI5=[[97]]:=k_;have h3:aBE (mQ 8) mG8.I mI5=true:=k_;rw[aBA,h1,fG,uP,h2,h3,aJ5,List.mergeSort_singleton]
def mGi(i:Nat):GM:=match i with|0=>lG1|1=>lG2|2=>lG3|_=>lG4
def aOQ{g f:GM}{p o:OpM}{u:Nat}(a:Reach bQ g){d:Int}(i:mZ d)(c:Xi g (G3 1 0 2 d 3 0) [u]=p)(b:cM p=o)(k:addM g (cM p)=(f,0)):
 aA PQ G jK [.ag p.A] [] (λr T=>r=.ag o.A/\T=[])/\aA PQ G mA [.ag g.A,.ag o.A] [] λr T=>r=.tup [.ag f.A,iv 0]/\T=[]:=by
 have j:p.By=1:=by rw[<-c];rfl
 have e:p.ok:=c ▸ ZX a.hyp6.1 a.seqb (GS (okS d_) (okS d_) i (okS d_)) _ (GR a _);refine⟨b ▸ OX p e (by rw[j];decide),?_⟩;have h:=So (G:=G) g (cM p) a.hyp6.1 (BM e);rw[k,b]at h;exact h
def aOR:aA PQ G aJG [] [] λr T=>r=.ag lG4.A/\T=[]:=by
 apply aC aLY;have e:=OX (G:=G) (G3 1 1 1 0 0 0) (Hs ⟨d_,d_⟩ ⟨d_,d_⟩ ⟨d_,d_⟩ ⟨d_,d_⟩ ⟨d_,d_⟩ ⟨d_,d_⟩) d_;have a:aA PQ G jK [.ag (gD (G3 1 1 1 0 0 0) dK dK dK dK dK)] [] λr T=>r=.ag PI.A/\T=[]:=by rw[<-lS1];exact aA.asub e (by simp only[pL];rfl)
 have q:aA PQ G mA [.ag lG0.A,.ag PI.A] [] λr T=>r=.tup [.ag lG1.A,iv 0]/\T=[]:=by
  have n:Reach bQ lG0:=by rw[lG0,<-C5];exact Reach.new
  have h:=So (G:=G) lG0 (cM lP1) n.hyp6.1 (BM (Hs (b:=1) (sq:=1) (k:=1) (d:=0) (rl:=0) (nd:=0) ⟨d_,d_⟩ ⟨d_,d_⟩ ⟨d_,d_⟩ ⟨d_,d_⟩ ⟨d_,d_⟩ ⟨d_,d_⟩));rw[lA1,lS1]at h;exact h
 simp only[go_sem];apply cX aMw;simp only[go_sem];apply cX VY;simp only[go_sem];apply cX ZW;simp only[go_sem];rw[C5,show(⟨qB,[],[],[],[]⟩:GM)=lG0 from rfl];apply cX a;simp only[go_sem];apply cX q;simp only[go_sem];refine aQ 3 (λi=>⟨0,[(0,.ptr 0 0),(1,.ptr 1 0),(2,iv (i+2:Nat))],[some (.box z5),some (.box (mGi i).A)]⟩) (λ_=>True) ?_ trivial ?_ ?_;simp only[go_sem,z5];rfl;intro i v _;have t:decide (((i+2:Nat):Int)<5)=true:=decide_eq_true o_;have w2:IntKind.i64.wrap (((i+2:Nat):Int)-2)=(i:Int):=a_;have w1:IntKind.i64.wrap (((i+2:Nat):Int)+1)=((i+1+2:Nat):Int):=a_;have c:∃(x:Id)(p o:OpM),((mGi i).I.map Id.A)[i]?=some x.A/\aA PQ G jK [.ag p.A] [] (λr T=>r=.ag o.A/\T=[])/\aA PQ G mA [.ag (mGi i).A,.ag o.A] [] (λr T=>r=.tup [.ag (mGi (i+1)).A,iv 0]/\T=[])/\p=⟨1,((i+2:Nat):Int),2,0,[x],((i+2:Nat):Int),0,0,3,[],⟨0,0,0⟩,0,[],[],⟨0,0,0⟩,[],0,0,[],0,[],0,0⟩:=by
  have h3:i=0\/i=1\/i=2:=o_;rcases h3 with rfl|rfl|rfl;have h:=aOQ (G:=G) lR1 (d:=2) (u:=0) (okS d_) k_ lS2 lA2;exact⟨ZZ,_,_,rfl,h.1,h.2,rfl⟩;have h:=aOQ (G:=G) lR2 (d:=3) (u:=1) (okS d_) k_ lS3 lA3;exact⟨lI2,_,_,rfl,h.1,h.2,rfl⟩;have h:=aOQ (G:=G) lR3 (d:=4) (u:=2) (okS d_) k_ lS4 lA4;exact⟨lI3,_,_,rfl,h.1,h.2,rfl⟩
 obtain⟨x,p,o,m,l,j,g⟩:=c;generalize mGi (i+1)=w at *
 generalize mGi i=s at *
 have f:aA PQ G jK [.ag (gD (G3 1 ((i+2:Nat):Int) 2 ((i+2:Nat):Int) 3 0) (ids [x]) dK dK dK dK)] [] λr T=>r=.ag o.A/\T=[]:=
  aA.asub l (by rw[g,show(⟨1,((i+2:Nat):Int),2,0,[x],((i+2:Nat):Int),0,0,3,[],⟨0,0,0⟩,0,[],[],⟨0,0,0⟩,[],0,0,[],0,[],0,0⟩:OpM)=opR (G3 1 ((i+2:Nat):Int) 2 ((i+2:Nat):Int) 3 0) [x] [] [] [] [] from rfl];simp only[pL,VW (RR [x]) VV,yH])
 simp only[go_sem,z5,t,w2,m];apply cX f;simp only[go_sem];apply cX j;simp only[go_sem,z5,w1,show s.A.drop 5=[] from rfl];intro _;simp only[go_sem,z5];rfl
abbrev opz(b k:Int)(e:Id)(w:AV)(m:Id):AV:=.ag [iv b,iv 0,iv k,iv 0,dK,iv 0,iv 0,iv 0,iv 0,dK,.v (.int .i64 e.a),.v (.int .i64 e.b),.v (.int .u64 e.c),iv 0,w,dK,.v (.int .i64 m.a),.v (.int .i64 m.b),.v (.int .u64 m.c),dK,iv 0,iv 0,dK,uv 0,dK,uv 0,uv 0]
def aR3(b:Int):tV (opz b 6 ⟨1,1,1⟩ (.ls 1 (bl [49,50,51,52,53,54,55,56])) ⟨0,0,0⟩) (.ag (xM b).A):=by
 rw[OpM.A_def];refine .inr ⟨_,rfl,?_⟩
 repeat (first|exact rfl|refine⟨_,_,rfl,aAd _,?_⟩|refine⟨_,_,rfl,.inr (.inl ⟨rfl,_,rfl⟩),?_⟩)
def aPZ(b:Int)(w:V_)(m:Id):tV (opz b 7 ⟨0,0,0⟩ (.ls 1 (bl w)) m) (.ag (xR b w m).A):=by
 rw[OpM.A_def];refine .inr ⟨_,rfl,?_⟩
 repeat (first|exact rfl|refine⟨_,_,rfl,aAd _,?_⟩|refine⟨_,_,rfl,.inr (.inl ⟨rfl,_,rfl⟩),?_⟩)
def aQ0(b:Int)(m:Id):tV (opz b 8 ⟨0,0,0⟩ dK m) (.ag (xE b m).A):=by
 rw[OpM.A_def];refine .inr ⟨_,rfl,?_⟩
 repeat (first|exact rfl|refine⟨_,_,rfl,aAd _,?_⟩|refine⟨_,_,rfl,.inr (.inl ⟨rfl,_,rfl⟩),?_⟩)
def aA.mid{f:FuncId}{a b z c:AV}{T:aK}{p:AV->aK->Prop}(i:aA PQ G f [a,c,b] T p)(e:tV z c):aA PQ G f [a,z,b] T p:=by
 have g:IG PQ G f [a,z,b] T p:=⟨_,⟨a,_,rfl,aAd a,c,_,rfl,e,b,_,rfl,aAd b,rfl⟩,.inr (.inr i)⟩
 exact λh l w d j hI k=>Ei g j hI k
def aOh(b:Int):aA PQ G aIz [iv b] [] λr T=>r=opz b 6 ⟨1,1,1⟩ (.ls 1 (bl [49,50,51,52,53,54,55,56])) ⟨0,0,0⟩/\T=[]:=by refine aC aK5 ?_;simp only[go_sem];rfl
def aMk{g b:GM}{o:OpM}{z:AV}(a:Reach bQ g)(d:o.ok)(f:0<=o.By)(c:tV z (.ag o.A))(e:aBC g o g.I=b):aA PQ G aCZ [.ag g.A,z,ids g.I] [] λr T=>r=.ag b.A/\T=[]:=by subst e;exact(aOK g a.hyp6.1 o d f g.I a.seqb (by have:=a.hyp6.1.i;have:=a.hyp6.1.n;omega) (GR a _)).mid c
def aOi:aA PQ G aJc [] [] λr T=>r=.ag mG8.A/\T=[]:=by have d:=aMk (G:=G) lR4 (aPX (okS d_)) d_ (aR3 2) mB5;have c:=aMk (G:=G) mR5 (aO5 (okS d_) ⟨d_,by simp[xN]⟩ aK6) d_ (aPZ 1 [97] mI5) mB6;have b:=aMk (G:=G) mR6 (aO5 (okS d_) ⟨d_,by simp[xN]⟩ aK6) d_ (aPZ 4 [97] mI5) mB7;have a:=aMk (G:=G) mR7 (aOP (okS d_) aK6) d_ (aQ0 2 mI5) mB8;apply aC aLO;simp only[go_sem];apply cX aOR;simp only[go_sem,z5];apply cX (aOh 2);simp only[go_sem];apply cX d;simp only[go_sem,show lG4.A.drop 5=[] from rfl,show mG5.I.length=5 from rfl,aP,show(mG5.I.map Id.A)[4]?=some mI5.A from rfl];apply cX c;simp only[go_sem,show mG5.A.drop 5=[] from rfl];apply cX b;simp only[go_sem,show mG6.A.drop 5=[] from rfl];apply cX a;simp only[go_sem,show mG7.A.drop 5=[] from rfl]
def aET{g:PGM}{l:D_}:∀x∈kW g l,x∈l:=by intro x a;have h:=(Aa (g:=g) (V:=sU g (eO g l) (zH l)) (eO g l) []).subset a;rw[dM]at h;exact(mE g l).mem_iff.1 h
def aE4{g:PGM}{l:D_}:(kW g l).length<=l.length:=by have h:=(Aa (g:=g) (V:=sU g (eO g l) (zH l)) (eO g l) []).length_le;rw[dM,aDM]at h;exact h
section
variable{T:aK}{p:Nat×Nat×Nat}{g:PGM}
def aMz(P:AK G)(w:GGood g){l:D_}(u:∀x∈l,x∈g.I)(H:l.Nodup)(K:l.length<=1000){y q B:Nat}(J:Nat->aK->Prop)
 (z:∀k T,J k T->GAt T p g/\T[q]?=some (some (.box [.ptr p.1 0]))/\T[B]?=some (some (.box [ids l])))
 (N:∀k(h:k<(kW g l).length) T W,J k T->DA PQ G y [.ag (kW g l)[k].A,.ag (g.nd (kW g l)[k]).o.A] (T++W) λr b=>r=.v (.bool true)/\J (k+1) b)
 (h0:J 0 T):aA PQ G aCE [.yl y,.ptr q 0,.ptr B 0] T λ_ b=>J (kW g l).length b:=by
 obtain⟨m,j,f⟩:=z 0 T h0;have M:(kW g l).length<=1000:=uR aE4 K;have e:∀x∈kW g l,x∈g.I:=λx E=>u x (aET x E);apply fT aH5;simp only[go_sem,j,f];apply cI (Vj P m w u H);simp only[go_sem,ids,aP];generalize kW g l=C at *
 apply kL (λn s=>∃i b,i<=C.length/\n=C.length-i/\J i b/\s=⟨T.length,[(12,iv i),(11,iv C.length),(10,ids C),(0,.yl y),(1,.ptr q 0)],b⟩) C.length ⟨0,T,pR _,rfl,h0,rfl⟩;rintro n s ⟨i,b,U,F,d,rfl⟩;rcases eD i C.length with a|L;rotate_left;obtain rfl:i=C.length:=o_;simp only[go_sem,aS (bP _)];exact d;have D:=fQ i o_;have Q:(C.map Id.A)[i]?=some C[i].A:=aO _ C i a;obtain⟨O,c1,c2⟩:=z i b d;have cE:=λX=>S5 (G:=G) (O.app (X:=X)) w.ok C[i] (e _ (eQ a));have R:=λX:aK=>aF (X:=X) c1;have t:=N i a b;simp only[go_sem,aT a,Q,ids,nY,R];simp only[Id.A_def]at cE;apply cI (cE _);simp only[go_sem,nY,eB,jC,dM];simp only[Id.A_def]at t;apply DA.mono (t _ d);rintro r S ⟨rfl,c⟩;simp only[go_sem,D];exact⟨_,(by omega:C.length-(i+1)<n),i+1,S,o_,rfl,c,rfl⟩
end
def Rd{p:Id->Bool}:∀(row V:D_)(y:Id),y∈row.foldl (λV y=>if p y=true then AQ V y else V) V↔y∈V\/(y∈row/\p y=true)|[],V,y=>by simp|z::row,V,y=>by rw[CW,Rd row];split<;>grind[BR]
def Vk{g:PGM}{V:D_}{x:Id}:∀(row out:D_),x∈row.foldl (iS g V) out->x∈out\/(x∈row/\x∉V)|[],_,h=>.inl h|z::row,out,h=>by rcases Vk row _ h with h|h;grind[iS];simp_all
def Ac{g:PGM}{V row:D_}{x:Id}(h:x∈mW g V row):x∈row/\x∉V:=by simpa using Vk row [] h
def Ht {g:PGM} {row:D_} {S:List (Int×Int)}:∀(n:Nat)(V left:D_),left.length<=n ->
 (∀x∈row,jM (g.nd x).o=true->x∈left\/x∈V\/∀y∈row,lA g x y=true->y∈V) ->
 (∀x∈V,x∈uL g row S n V left)/\∀x∈row,jM (g.nd x).o=true->x∈uL g row S n V left\/∀y∈row,lA g x y=true->y∈uL g row S n V left
 |0,V,left,t,h=>by
  grind[uL]
 | n+1,V,left,t,h=>by
  rw[uL];dsimp only;have s:=List.length_filter_le (λx=>!decide (x∈V)) left;have h1:∀x∈row,jM (g.nd x).o=true->x∈left.filter (λx=>!decide (x∈V))\/x∈V\/∀y∈row,lA g x y=true->y∈V:=λx c f=>by have:=h x c f;grind
  generalize left.filter (λx=>!decide (x∈V))=L at *
  split;rename_i e;subst e;exact⟨λx c=>c,λx c f=>by simpa using h1 x c f⟩;rename_i e;obtain⟨h0,w⟩:=RY (g:=g) (row:=row) (S:=S) e;generalize yY g row S L=k at *
  have v:k.toNat<L.length:=o_;generalize k.toNat=i at *
  have ex:L.getD i default=L[i]:=by simp[rH,v]
  have m:(L.eraseIdx i).length<=n:=by rw[List.length_eraseIdx];split<;>omega
  have d:∀x∈L,x=L[i]\/x∈L.eraseIdx i:=λx c=>by obtain⟨j,u,rfl⟩:=List.mem_iff_getElem.1 c;by_cases e:j=i;subst e;exact .inl rfl;exact .inr (List.mem_eraseIdx_iff_getElem.2 ⟨j,u,e,rfl⟩)
  rw[ex];generalize L[i]=q at *
  split;have r:=λy=>Rd (p:=λy=>lA g q y||(decide (y∈L.eraseIdx i)&&B7 g row q y)) row V y
  obtain⟨a,b⟩:=Ht n (Mb g row q (L.eraseIdx i) V) (L.eraseIdx i) (S:=S) m (λx c f=>by
   rcases h1 x c f with h|h|h;rcases d x h with rfl|h;exact .inr (.inr λy l e=>(r y).2 (.inr ⟨l,az⟩));exact .inl h;exact .inr (.inl ((r x).2 (.inl h)))
   exact .inr (.inr λy l e=>(r y).2 (.inl (h y l e))))
  exact⟨λx c=>a x ((r x).2 (.inl c)),b⟩
  obtain⟨a,b⟩:=Ht n (AQ V q) (L.eraseIdx i) (S:=S) m (λx c f=>by
   rcases h1 x c f with h|h|h;rcases d x h with rfl|h;exact .inr (.inl (BR.2 (.inr rfl)));exact .inl h;exact .inr (.inl (BR.2 (.inl h)))
   exact .inr (.inr λy l e=>BR.2 (.inl (h y l e))))
  exact⟨λx c=>a x (BR.2 (.inl c)),b⟩
def Re{g:PGM}{row V:D_}:(∀x∈V,x∈sU g row V)/\∀x∈row,jM (g.nd x).o=true->x∈sU g row V\/∀y∈row,lA g x y=true->y∈sU g row V :=
 Ht _ _ _ (List.length_filter_le ..) λx a b=>.inl (gR.2 ⟨a,b⟩)
def PM{g:PGM}{l:D_}{x:Id}(h:x∈kW g l):x∈l/\x∉sU g (eO g l) (zH l):=
 ⟨(mE g l).mem_iff.1 (Ac h).1,(Ac h).2⟩
def Xy{g:PGM}{l:D_}{x:Id}(b:∀x∈l,x∈g.I)(a:x∈kW g l):Gk g l (zH l) x=0:=by obtain⟨h1,h2⟩:=PM a;have h3:x∉zH l:=λh=>h2 (Re.1 x h);unfold Gk;rw[if_neg (by simp[b x h1,h1]),if_neg h3];exact if_pos a
def Reach.nd{cs:List CardM}(j:cardsOk cs){g:GM}(h:Reach cs g):g.I.Nodup:=by
 induction h with
 |new=>exact Mm| @add g o f i d ih=>
  by_cases h:(dV g o).1=0;rotate_left;grind[addM];have a:=Ff h;rw[yE a h,vQ];refine⟨ih,s_,?_⟩;intro x c y b e;rw[cA.1 b]at e;exact a.twice ((Cz g.I _).2 (e ▸ c))
def bfM(g:GM)(x y:Id):Bool:=decide (x∈g.I)&&(decide (y∈g.I)&&(g.In.getD (aW g.I y).toNat []).getD (aW g.I x).toNat false)
def aQf{p:PGM}{g:GM}(s:Sim p g)(d:g.L.length<=200)(x y:Id):oH p x y=bfM g x y:=by
 have h:p.I.length=g.L.length:=by rw[PGM.I,<-s.l,aP,aP]
 by_cases mx:x∈p.I;by_cases a:y∈p.I;obtain⟨j,c,f,_⟩:=dG mx;obtain⟨k,b,e,_⟩:=dG a;rw[aMe s d c b o_ o_ mx a];rw[s.i]at mx a c b;unfold bfM aW qX inG;simp[mx,a,c,b];unfold oH bfM;rw[<-s.i];simp[a];unfold oH bfM;rw[<-s.i];simp[mx]
def RU.trans{a:List V_}{up:V_}{i k:Nat}(h:RU a up i)(h2:RU a (a.getD i []) k):RU a up k:=by
 induction h2 with
 |base h2=>exact .step h h2|step _ h3 ih=>exact .step ih h3
section
variable{g:GM}
def aJ3(b:g.I.length=g.L.length){x:Id}(a:x∈g.I):(aW g.I x).toNat<g.L.length:=by have h1:=(Cz g.I x).2 a;have h2:=(AZ g.I x).1;omega
def aP1(w:g.wf){x y z:Id}(h1:bfM g x y=true)(h2:bfM g y z=true):bfM g x z=true:=by
 unfold bfM at *
 simp only[zJ,decide_eq_true_eq]at *
 refine⟨h1.1,h2.2.1,?_⟩;have a:=(w.past _ (aJ3 w.i h1.2.1) _).1 h1.2.2;have b:=(w.past _ (aJ3 w.i h2.2.1) _).1 h2.2.2;exact(w.past _ (aJ3 w.i h2.2.1) _).2 (b.trans a)
def aP2(a:g.I.Nodup){i:Nat}(h:i<g.I.length):aW g.I g.I[i]=i:=by obtain⟨j,e,b,_,h2⟩:=dG (eQ h);have:j=i:=(C9 a).1 h2;unfold aW qX;rw[e,this]
def aNF{x:Id}(b:x∈g.I):g.I.getD (aW g.I x).toNat default=x:=by obtain⟨j,e,a,_,h2⟩:=dG b;unfold aW qX;rw[e];simp[rH,a,h2]
end
structure PGM.wf(g:PGM):Prop where
 nd:g.I.Nodup
 back:∀x∈g.I,∀k,qK (g.nd x).W k=true->k<g.at x
def aEU{g:PGM}{x:Id}(h:x∈g.I):g.at x<g.nodes.length/\g.I[g.at x]?=some x:=by
 obtain⟨j,e,a,_,h2⟩:=dG h;have b:g.at x=j:=by unfold PGM.at;rw[e];rfl
 rw[b];refine⟨by simpa[PGM.I]using a,?_⟩;rw[jN a,h2]
def aQg{g:PGM}{x y:Id}(d:x∈g.I)(c:y∈g.I)(h:g.at x=g.at y):x=y:=by have a:=(aEU d).2;have b:=(aEU c).2;rw[h,b]at a;exact(Option.some.inj a).symm
def aQh{g:PGM}(w:g.wf){k:Nat}(h:k<g.nodes.length):∃y∈g.I,g.at y=k/\g.nd y=g.nodes.getD k XD:=by
 have c:k<g.I.length:=by simpa[PGM.I]using h
 have m:=eQ c;have a:=(aEU m).2;have e:g.at g.I[k]=k:=by
  have b:g.at g.I[k]<g.I.length:=by have:=(aEU m).1;simpa[PGM.I]using this
  rw[jN b]at a;exact(C9 w.nd).1 (Option.some.inj a)
 exact⟨_,m,e,by unfold PGM.nd;rw[e]⟩
def aJe{g:PGM}{x y:Id}(b:x∈g.I)(a:y∈g.I):oH g x y=qK (g.nd y).W (g.at x):=by unfold oH;simp[b,a]
def aP3{W V:V_}(a:Hu W)(b:Hu V)(k:Nat):qK (Cu W V) k=(qK W k&&qK V k):=by unfold qK;rw[aB2 W V (by rw[a.1,b.1]),Nat.testBit_and]
def aPx(a:List ND)(o:OpM)(W:V_)(n j:Nat)(b:j<n)(h1:(a.getD j XD).o.By=o.By)(h2:qK W j=true):(a.getD j XD).o.Seq<=(BY a o W n).1:=by
 induction n with
 |zero=>omega|succ n ih=>
  unfold BY;grind
def aP4(a:List ND)(o:OpM)(W:V_)(n:Nat):0<=(BY a o W n).1:=by
 induction n with
 |zero=>simp[BY]|succ n ih=>unfold BY;grind
def aPy(a:List ND)(o:OpM)(W:V_)(n:Nat)(h:(BY a o W n).2=true):∃j,j<n/\(a.getD j XD).o.By=o.By/\qK W j=true/\(a.getD j XD).o.Seq=o.Seq-1:=by
 induction n with
 |zero=>simp[BY]at h|succ n ih=>
  unfold BY at h;grind
def anc(g:PGM)(o:OpM)(y:Id):Bool:=o.Past.any λx=>decide (y=x)||oH g y x
def aLT{g:PGM}(c:g.ok){o:OpM}(b:∀x∈o.Past,x∈g.I){y:Id}(d:y∈g.I):qK (BF g o) (g.at y)=anc g o y:=by have e:=c.n;rw[BF,ZM (JC c _) (JB g _),CT,Ec,aDY c,aDX g c.n o.Past λx a=>by have:=(aEU (b x a)).1;omega];unfold anc;rw[CX];constructor;rintro(⟨x,a,h⟩|⟨x,a,h⟩);exact⟨x,a,by simp[aJe d (b x a),h]⟩;exact⟨x,a,by simp[aQg (b x a) d h]⟩;rintro⟨x,a,h⟩;rcases Ec _ _ ▸ h with h|h;exact .inr ⟨x,a,by rw[of_decide_eq_true h]⟩;exact .inl ⟨x,a,by rw[<-aJe d (b x a)];exact h⟩
structure Took(g:PGM)(o:OpM):Prop where
 check:vF o=0
 new:C7 o∉g.I
 full:g.nodes.length<200
 card:(gM g.cards o.By).2=true
 sig:((o.By==(gM g.cards o.By).1.Device)&&BW (gM g.cards o.By).1.Sign o.B o.SR o.SS)=true
 kind:o.Kind=1->g.nodes=[]
 there:∀x∈o.Past,x∈g.I
 order:∀x∈o.Past,∀y∈o.Past,oH g y x=false
 late:G0 g o.Past<=o.At
 seq:∀y∈g.I,anc g o y=true->(g.nd y).o.By=o.By->(g.nd y).o.Seq<o.Seq
 pos:0<o.Seq
 pre:1<o.Seq->∃y∈g.I,anc g o y=true/\(g.nd y).o.By=o.By/\(g.nd y).o.Seq=o.Seq-1
def aO9{g:PGM}(d:g.ok)(w:g.wf){o:OpM}(h:(sR g o).2=0):Took g o/\(sR g o).1=⟨g.cards,g.nodes++[⟨o,C7 o,BF g o,Fa g o.Past⟩]⟩:=by
 unfold sR at h⊢;by_cases c1:vF o=0;rotate_left;rw[if_pos c1]at h;exact absurd h c1;rw[if_neg (by simp[c1])]at h⊢;unfold Oa at h⊢;split at h;exact absurd h s_;rename_i c2;split at h;exact absurd h s_;rename_i c3;split at h;exact absurd h s_;rename_i r;split at h;exact absurd h s_;rename_i q;split at h;exact absurd h s_;rename_i k;split at h;exact absurd h s_;rename_i z;rw[if_neg c2,if_neg c3,if_neg r,if_neg q,if_neg k,if_neg z];unfold Q8 at h⊢;split at h;exact absurd h s_;rename_i m;split at h;exact absurd h s_;rename_i i;rw[if_neg m,if_neg i];refine⟨?_,rfl⟩;have A:=d.n;have c:∀x∈o.Past,x∈g.I:=λx b=>by have e:CQ g o=[]:=Ae o_;unfold CQ at e;have:=List.filter_eq_nil_iff.1 e x b;simpa using this
 have l:∀x∈o.Past,g.at x<256:=λx b=>by have:=(aEU (c x b)).1;omega
 simp only[EX,Bool.not_eq_false,zJ,beq_iff_eq,decide_eq_false_iff_not]at m;unfold MQ at i;simp only[Ec,zJ,decide_eq_true_eq,EX,not_or,not_and,Bool.not_eq_false]at i;have p:=aP4 g.nodes o (BF g o) g.nodes.length;refine⟨c1,c2,o_,kw,by simpa using q,?_,c,?_,o_,?_,o_,?_⟩;intro t;apply Ae;rw[t]at k;simp at k;simp[k];intro x b y a
 cases f:oH g y x with
 |false=>rfl|true=>
  rw[aJe (c y a) (c x b)]at f;have h1:=(aDY d o.Past (g.at y)).2 ⟨x,b,f⟩;have h2:=(aDX g d.n o.Past l (g.at y)).2 ⟨y,a,rfl⟩;have h3:=aP3 (JB g o.Past) (JC d o.Past) (g.at y);rw[m.1,ZN,h1,h2]at h3;exact absurd h3 d_
 intro y a v f;have:=aPx g.nodes o (BF g o) g.nodes.length (g.at y) (aEU a).1 f (by rw[aLT d c a];exact v);have e:(g.nd y).o.Seq=(g.nodes.getD (g.at y) XD).o.Seq:=rfl;omega;intro s;obtain⟨j,u,h1,h2,h3⟩:=aPy _ _ _ _ (i.2 s);obtain⟨y,a,rfl,e⟩:=aQh w u;rw[aLT d c a]at h2;rw[<-e]at h1 h3;exact⟨y,a,h2,h1,h3⟩
structure Same(p q:PGM)(x:Id):Prop where
 l:x∈p.I
 r:x∈q.I
 o:(p.nd x).o=(q.nd x).o
 lv:(p.nd x).lv=(q.nd x).lv
 b:∀y,oH p y x=oH q y x
def Same.symm{p q:PGM}{x:Id}(h:Same p q x):Same q p x:=⟨h.r,h.l,h.o.symm,h.lv.symm,λy=>(h.b y).symm⟩
def Same.trans{p q r:PGM}{x:Id}(h:Same p q x)(k:Same q r x):Same p r x:=⟨h.l,k.r,h.o.trans k.o,h.lv.trans k.lv,λy=>(h.b y).trans (k.b y)⟩
def aMp{g:PGM}{x y:Id}(h:oH g x y=true):x∈g.I/\y∈g.I:=by unfold oH at h;simp only[zJ,decide_eq_true_eq]at h;exact⟨h.1,h.2.1⟩
def aPz{g:PGM}{o:OpM}(b:∀x∈o.Past,x∈g.I){y:Id}(h:anc g o y=true):y∈g.I:=by unfold anc at h;obtain⟨x,a,h⟩:=CX.1 h;rcases Ec _ _ ▸ h with h|h;rw[of_decide_eq_true h];exact b x a;exact(aMp h).1
def aOa {g:PGM} (q:g.ok) (w:g.wf) {o:OpM} (t:Took g o) {d:PGM} (e:d=⟨g.cards,g.nodes++[⟨o,C7 o,BF g o,Fa g o.Past⟩]⟩):
 d.wf/\d.I=g.I++[C7 o]/\(∀x∈g.I,Same g d x)/\(d.nd (C7 o)).o=o/\(d.nd (C7 o)).lv=Fa g o.Past/\∀y,oH d y (C7 o)=anc g o y:=by
 have hI:d.I=g.I++[C7 o]:=by subst e;simp[PGM.I]
 have A:g.I.length=g.nodes.length:=by simp[PGM.I]
 have l:d.I.Nodup:=by rw[hI,vQ];refine⟨w.nd,s_,?_⟩;intro a E b r;rw[cA.1 r];rintro rfl;exact t.new E
 have z:∀x∈g.I,d.at x=g.at x:=λx c=>by
  have h1:=aEU c;have h2:=aEU (g:=d) (x:=x) (by rw[hI];simp[c]);have h3:g.at x<g.I.length:=by rw[A];exact h1.1
  have B:d.at x<d.I.length:=by have:=h2.1;simpa[PGM.I]using this
  have u:d.I[g.at x]?=some x:=by rw[hI,mY h3];exact h1.2
  have D:g.at x<d.I.length:=by rw[hI];simp;omega
  rw[jN D]at u;have s:=h2.2;rw[jN B]at s;exact((C9 l).1 ((Option.some.inj u).trans (Option.some.inj s).symm)).symm
 have v:d.at (C7 o)=g.nodes.length:=by
  have h2:=aEU (g:=d) (x:=C7 o) (by rw[hI];simp);have B:d.at (C7 o)<d.I.length:=by have:=h2.1;simpa[PGM.I]using this
  have s:=h2.2;rw[jN B]at s;have D:g.nodes.length<d.I.length:=by rw[hI];simp[A]
  have u:d.I[g.nodes.length]=C7 o:=by simp[hI,<-A]
  exact(C9 l).1 ((Option.some.inj s).trans u.symm)
 have p:∀x∈g.I,d.nd x=g.nd x:=λx c=>by unfold PGM.nd;rw[z x c];subst e;exact Ol _ _ _ _ (aEU c).1
 have m:d.nd (C7 o)=⟨o,C7 o,BF g o,Fa g o.Past⟩:=by unfold PGM.nd;rw[v];subst e;exact D2 _ _ _
 have bk:∀k,qK (BF g o) k=true->k<g.nodes.length:=λk h=>by
  rw[BF,ZM (JC q _) (JB g _),Ec,aDY q,aDX g q.n o.Past λx c=>by have:=(aEU (t.there x c)).1;have:=q.n;omega]at h;rcases h with⟨x,c,h⟩|⟨x,c,rfl⟩
  have:=w.back x (t.there x c) k h;have:=(aEU (t.there x c)).1;omega;exact(aEU (t.there x c)).1
 have f:∀y,y∈d.I↔y∈g.I\/y=C7 o:=λy=>by rw[hI];simp
 refine⟨⟨l,?_⟩,hI,?_,by rw[m],by rw[m],?_⟩;intro x c k h;rcases(f x).1 c with h1|rfl;rw[p x h1]at h;rw[z x h1];exact w.back x h1 k h;rw[m]at h;rw[v];exact bk k h;intro x c;refine⟨c,(f x).2 (.inl c),by rw[p x c],by rw[p x c],λy=>?_⟩;by_cases j:y∈g.I;rw[aJe j c,aJe ((f y).2 (.inl j)) ((f x).2 (.inl c)),p x c,z y j];have C:oH g y x=false:=by unfold oH;simp[j]
 rw[C];by_cases i:y=C7 o;subst i;rw[aJe ((f _).2 (.inr rfl)) ((f x).2 (.inl c)),p x c,v]
 cases r:qK (g.nd x).W g.nodes.length with
 |false=>rfl|true=>
  have:=w.back x c _ r;have:=(aEU c).1;omega
 unfold oH;simp[f,j,i];intro y;by_cases j:y∈g.I;rw[aJe ((f y).2 (.inl j)) ((f _).2 (.inr rfl)),m,z y j,aLT q t.there j];have C:anc g o y=false:=by
  cases h:anc g o y with
  |false=>rfl|true=>exact absurd (aPz t.there h) j
 rw[C];by_cases i:y=C7 o;subst i;rw[aJe ((f _).2 (.inr rfl)) ((f _).2 (.inr rfl)),m,v]
 cases r:qK (BF g o) g.nodes.length with
 |false=>rfl|true=>exact absurd (bk _ r) (bP _)
 unfold oH;simp[f,j,i]
end Hud
