import Derived.Test.YtlhonkjgkfdnmaaGreatDoorLib42
import Derived.Test.YtlhonkjgkfdnmaaGreatDoorLib43
set_option linter.all false
set_option maxHeartbeats 40000000
namespace Hud
open Go
variable{G:L_}
section
variable{T:aK}
def Lp(x y:Id):aA PQ G pG [.ag x.A,.ag y.A] [] λr T=>r=iv (Wi x y)/\T=[]:=by refine aC Hi ?_;simp only[go_sem,Id.A_def];apply cX (Cm x y);simp only[go_sem];refine aL (λh=>?_) (λh=>?_);simp only[go_sem,Wi,h];simp only[go_sem];apply cX (Cm y x);simp only[go_sem];refine aL (λh2=>?_) (λh2=>?_)<;>simp only[go_sem,Wi,h,h2]
def aGn(l:D_)(f:l.length<2^62):aA PQ G bK [.own 0,.cl pG []] [some (.arr 3 (l.map Id.A))] λr T=>r=.tup []/\T=[some (.arr 3 ((sQ l).map Id.A))]:=by
 have a:∀x y:Id,Go.Proofs.ltOf Wi x y=x.lt y:=by grind[Go.Proofs.ltOf,Wi]
 have:=SW (k:=3) (enc:=Id.K) Go.Proofs.Tryz.laysSort Go.Proofs.Tryz.isAgg41 Go.Proofs.Tryz.sizeOf41 (λ_=>rfl) (λx v b=>by simp[Id.K]at b;rcases b with rfl|rfl|rfl<;>rfl)
  (λx c d=>by simp[cellsOf,Id.K]at d;rcases d with rfl|rfl|rfl<;>rfl) (cf:=Wi)
  ⟨λx=>by rw[a,Id.lt_irrefl],λx y z h1 h2=>by rw[a]at *;exact Id.lt_trans h1 h2,λx y z h1 h2=>by rw[a]at *;exact Id.nlt_trans h1 h2⟩
  (λx y h1 h2=>by rw[a]at *;exact Id.lt_total h1 h2) (g:=pG) (Go.Proofs.enters_of Go.Proofs.Tryz.func327 g_ rfl) (Go.Proofs.enters_of Go.Proofs.Tryz.func259 g_ rfl) (G:=G) Lp l f
 have e:(λx y:Id=>!(Go.Proofs.ltOf Wi y x))=λx y=>!(y.lt x):=by funext x y;rw[a]
 rw[e]at this;exact this
def Zg(k:Nat):TO [k] k=some 0:=by simp[TO,List.idxOf?,List.findIdx?_cons]
def Zh{k q:Nat}{es:N_}(a:T[k]?=some (some (.arr q es))):GX [k] T=[some (.arr q es)]:=by simp only[GX,fG,uP,kU a,H6,YQ]
def G5{k:Nat}{l:D_}(a:T[k]?=some (some (.arr 3 (l.map Id.A))))(c:l.length<2^62):
 aA PQ G wN [.own k] T λr b=>r=.own k/\b=T.set k (some (.arr 3 ((sQ l).map Id.A))):=by
 apply fT KB;simp only[go_sem];apply aG [k] (aB _) s_ (by simpa using dB a) (by simp only[xF,Bd,Zg]) (Zh a) (aGn l c);rintro r b ⟨rfl,rfl⟩;simp only[go_sem,IF,DC]
def PN(l:D_)(d a b:Int):D_:=l.filter λx=>x.a==d&&(decide (a<=x.b)&&decide (x.b<=b))
def aBu (l:D_) (B:l.length<=1000) (d a b:Int):aA PQ G Jp [ids l,iv d,iv a,iv b] T λr v=>r=ids (sQ (PN l d a b))/\v=T:=by
 refine(aA.keepLs (q:=λk y=>k=3/\y=(sQ (PN l d a b)).map Id.A) (fT Sw ?_)).mono ?_;rotate_left;simp;simp only[go_sem,ids,aP]
 refine kL (λn t=>∃i,i<=l.length/\n=l.length-i/\∃(X:aK)(k:Nat),X[k]?=some (some (.arr 3 ((PN (l.take i) d a b).map Id.A))) /\
  ∃S,(S=[(14,iv i),(13,iv l.length),(12,ids l),(9,.own (T.length+k)),(1,iv d),(2,iv a),(3,iv b)]\/S=[(14,iv i),(9,.own (T.length+k)),(13,iv l.length),(12,ids l),(1,iv d),(2,iv a),(3,iv b)])/\t=⟨T.length,S,T++X⟩) l.length ⟨0,pR _,rfl,_,0,rfl,_,.inl rfl,rfl⟩ ?_
 rintro n t ⟨i,C,w,X,k,j,S,u,rfl⟩;rcases eD i l.length with c|x;rotate_left
 ·obtain rfl:i=l.length:=o_;rw[dE]at j;have h:(PN l d a b).length<2^62:=by grind[PN]
  have g:=G5 (G:=G) (T:=T++X) (k:=T.length+k) (by rw[aZ];exact j) h;rcases u with rfl|rfl
  all_goals (
   simp only[go_sem,aS (bP _)]
   apply jA g
   rintro r v ⟨rfl,rfl⟩
   simp only[go_sem,cP]
   exact⟨aH,_,3,_,rfl,o_,by rw[aZ];exact dS j,rfl,rfl⟩)
 have m:=fQ i o_;have o:(l.map Id.A)[i]?=some l[i].A:=aO _ l i c;have f:PN (l.take (i+1)) d a b=PN (l.take i) d a b++if(l[i].a==d&&(decide (a<=l[i].b)&&decide (l[i].b<=b)))=true then [l[i]] else []:=by rw[lB c,PN,Mf,List.filter_cons,List.filter_nil];rfl
 have h:(PN (l.take i) d a b).length<=1000:=by grind[List.length_take,PN]
 generalize PN (l.take i) d a b=out at *
 generalize l[i]=z at *
 have e:=λY:aK=>aF (X:=Y) j;have s:out.length+1<=maxLen:=a_;have p:(out.length+1)*24<=140737488355328:=o_;rcases u with rfl|rfl
 all_goals (
  cases c1:z.a==d
  rw[c1,lR,if_neg d_,jO]at f
  simp only[go_sem,aT c,o,c1,ids,m,undef,nY]
  exact⟨l.length-(i+1),o_,i+1,o_,rfl,_,k,by rw[f];exact e _,_,og,rfl⟩
  cases c2:decide (a<=z.b)
  rw[c1,c2,lR,Ea,if_neg d_,jO]at f
  simp only[go_sem,aT c,o,c1,c2,ge_iff_le,ids,m,undef,nY]
  exact⟨l.length-(i+1),o_,i+1,o_,rfl,_,k,by rw[f];exact e _,_,og,rfl⟩
  cases c3:decide (z.b<=b)
  rw[c1,c2,c3,Ea,Ea,if_neg d_,jO]at f
  simp only[go_sem,aT c,o,c1,c2,c3,ge_iff_le,ids,m,undef,nY]
  exact⟨l.length-(i+1),o_,i+1,o_,rfl,_,k,by rw[f];exact e _,_,og,rfl⟩
  rw[c1,c2,c3,yH,yH,if_pos rfl]at f
  simp only[go_sem,aP,aT c,o,c1,c2,c3,ge_iff_le,ids,m,undef,e,s,p,nY]
  refine⟨l.length-(i+1),o_,i+1,o_,rfl,_,X.length+2,?_,_,.inr rfl,rfl⟩
  rw[f,bZ]
  exact TB k0)
end
def RZ(S:List ((Int×Int)×Int))(bs:V_)(a:Nat):AObj:=.map true (S.map λe=>[.int .i64 e.1.1,.int .i64 e.1.2]) (S.map λe=>iv e.2) bs a
def wM(S:List ((Int×Int)×Int))(k:Int×Int):Int:=match S.findIdx? (λe=>decide (e.1=k)) with|some j=>(S.getD j default).2|none=>0
def oW(S:List ((Int×Int)×Int))(k:Int×Int)(x:Int):List ((Int×Int)×Int):=match S.findIdx? (λe=>decide (e.1=k)) with|some j=>S.set j (k,x)|none=>S++[(k,x)]
def K9(L:List (Int×Int))(x:Id):Bool:=match L.findIdx? (λe=>x.a==e.1) with|some j=>decide (x.b<(L.getD j (0,0)).2)|none=>true
def pM(s:List ((Int×Int)×Int)×List (Int×Int))(x:Id):List ((Int×Int)×Int)×List (Int×Int):=
 (oW s.1 (x.a,x.b) (wM s.1 (x.a,x.b)+1),if wM s.1 (x.a,x.b)+1<2 then s.2 else if K9 s.2 x=true then nZ s.2 x.a x.b else s.2)
def mX(l:D_):List ((Int×Int)×Int)×List (Int×Int):=l.foldl pM ([],[])
def D9(k:Int×Int):∀(S:List ((Int×Int)×Int))(i:Nat),eR [.int .i64,.int .i64] [.int .i64 k.1,.int .i64 k.2] (S.map λe=>[.int .i64 e.1.1,.int .i64 e.1.2]) i=some ((S.findIdx? λe=>decide (e.1=k)).map (· + i))
 |[],i=>rfl
 | e::S,i=>by
  simp only[fG,eR,rJ,and_self,if_true,yH,List.findIdx?_cons];have:=D9 k S (i+1);have a:(k.1==e.1.1&&k.2==e.1.2)=decide (e.1=k):=f_;by_cases h:e.1=k;simp_all;rw[decide_eq_false h]at a⊢;simp only[a,this,jJ,if_false]
  cases S.findIdx? (λe=>decide (e.1=k)) with
  |none=>rfl
  |some j=>simp;omega
def aKO{bs:V_}(h:bs.Nodup){j:Nat}(a:j<bs.length):bs.findIdx? (λb:Nat=>(b:Int)==(bs[j]:Int))=some j:=by
 rw[Ad];refine⟨a,s_,λi c=>?_⟩;have:bs[i]≠bs[j]:=λe=>by have:=(C9 (h₀:=o_) (h₁:=a) h).1 e;omega
 simp_all;omega
def aBv(S:List ((Int×Int)×Int))(k:Int×Int){bs:V_}{a:Nat}(f:Bs S.length bs a):
 (∃(j:Nat)(h:j<bs.length),eR [.int .i64,.int .i64] [.int .i64 k.1,.int .i64 k.2] (S.map λe=>[.int .i64 e.1.1,.int .i64 e.1.2]) 0=some (some j)/\(S.map λe=>iv e.2)[j]?=some (iv (wM S k))/\bs.findIdx? (λb:Nat=>(b:Int)==(bs[j]:Int))=some j /\
  (∀x,AObj.map true (S.map λe=>[.int .i64 e.1.1,.int .i64 e.1.2]) ((S.map λe=>iv e.2).set j (iv x)) bs a=RZ (oW S k x) bs a/\Bs (oW S k x).length bs a)) \/
 (eR [.int .i64,.int .i64] [.int .i64 k.1,.int .i64 k.2] (S.map λe=>[.int .i64 e.1.1,.int .i64 e.1.2]) 0=some none/\wM S k=0 /\
  (∀x,AObj.map true ((S.map λe=>[.int .i64 e.1.1,.int .i64 e.1.2])++[[.int .i64 k.1,.int .i64 k.2]]) ((S.map λe=>iv e.2)++[iv x]) (bs++[a]) (a+1)=RZ (oW S k x) (bs++[a]) (a+1)/\Bs (oW S k x).length (bs++[a]) (a+1))):=by
 have d:=D9 k S 0
 cases e:S.findIdx? (λe=>decide (e.1=k)) with
 |none=>
  rw[e]at d;refine .inr ⟨d,by rw[wM,e],λx=>?_⟩;have i:oW S k x=S++[(k,x)]:=by rw[oW,e]
  rw[i];refine⟨by simp[RZ],?_⟩;rw[dZ];exact f.suc
 | some j=>
  rw[e]at d;obtain⟨h,g,_⟩:=Ad.1 e;have c:j<bs.length:=by rw[f.len];exact h
  refine .inl ⟨j,c,d,?_,aKO f.nd c,λx=>?_⟩;grind[wM];have i:oW S k x=S.set j (k,x):=by rw[oW,e]
  rw[i,cL];refine⟨?_,f⟩;rw[RZ,Ba,Ba];congr 1;have l:k=S[j].1:=(of_decide_eq_true g).symm;rw[l];exact(BE (λe:(Int×Int)×Int=>[Value.int .i64 e.1.1,Value.int .i64 e.1.2]) S j h).symm
def aIP{S:List ((Int×Int)×Int)}{k a:Int×Int}{x:Int}{j:Nat}(h:S.findIdx? (λe=>decide (e.1=k))=some j):(S.set j (k,x)).findIdx? (λe=>decide (e.1=a))=S.findIdx? (λe=>decide (e.1=a)):=by
 obtain⟨f,d,_⟩:=Ad.1 h;have b:∀L:List ((Int×Int)×Int),L.findIdx? (λe=>decide (e.1=a))=(L.map (·.1)).findIdx? (λc=>decide (c=a)):=λL=>by rw[List.findIdx?_map];rfl
 rw[b,b,Ba];congr 1;have:=BE (λe:(Int×Int)×Int=>e.1) S j f;simp_all
def aEO (S:List ((Int×Int)×Int)) (k a:Int×Int) (x:Int):wM (oW S k x) a=if a=k then x else wM S a:=by
 cases e:S.findIdx? (λe=>decide (e.1=k)) with
 | some j=>
  obtain⟨l,f,_⟩:=Ad.1 e;have d:oW S k x=S.set j (k,x):=by rw[oW,e]
  rw[d,wM,aIP e];by_cases b:a=k;simp_all;rw[if_neg b,wM]
  cases c:S.findIdx? (λe=>decide (e.1=a)) with
  |none=>rfl|some i=>
   obtain⟨h,g,_⟩:=Ad.1 c;grind
 | none=>
  have d:oW S k x=S++[(k,x)]:=by rw[oW,e]
  rw[d,wM,List.findIdx?_append];by_cases b:a=k;grind;rw[if_neg b,wM]
  cases c:S.findIdx? (λe=>decide (e.1=a)) with
  |none=>
   grind
  |some i=>
   obtain⟨h,_,_⟩:=Ad.1 c;grind
def TJ(k:Int×Int):∀(l:D_)(s:List ((Int×Int)×Int)×List (Int×Int)),wM (l.foldl pM s).1 k=wM s.1 k+(l.countP λx=>decide ((x.a,x.b)=k):Nat)|[],s=>by simp|x::l,s=>by rw[CW,TJ k l,List.countP_cons,pM,aEO];grind
def aBw{S:List (Int×Int)}{d x:Int}(h:(S.map (·.1)).Nodup):((nZ S d x).map (·.1)).Nodup:=by
 unfold nZ
 cases e:S.findIdx? (λe=>d==e.1) with
 |none=>
  grind
 |some j=>
  obtain⟨b,a,_⟩:=Ad.1 e;grind[List.map_set]
def JU:∀(l:D_)(s:List ((Int×Int)×Int)×List (Int×Int)),(s.2.map (·.1)).Nodup->((l.foldl pM s).2.map (·.1)).Nodup|[],_,h=>h| x::l,s,h=>by rw[CW];apply JU l _;rw[pM];dsimp only;split;exact h;split;exact aBw h;exact h
def Ka:∀(l:D_)(s:List ((Int×Int)×Int)×List (Int×Int)),(l.foldl pM s).2.length<=s.2.length+l.length
 |[],_=>by simp
 | x::l,s=>by
  rw[CW,sE];have h1:=Ka l (pM s x);have h2:(pM s x).2.length<=s.2.length+1:=by rw[pM];dsimp only;split;omega;split;exact Xt;omega
  omega
def fA(f:Int×Int):O_:=[iv f.1,iv f.2]
section
variable{T:aK}{p:Nat×Nat×Nat}{g:PGM}
def aBx(x y:Int×Int):aA PQ G qT [.ag (fA x),.ag (fA y)] [] λr T=>r=iv (wG x.1 y.1)/\T=[]:=by refine aC JE ?_;simp only[go_sem,fA];apply cX (kB x.1 y.1);simp only[go_sem]
def aGo (out:List (Int×Int)) (t:(out.map (·.1)).Nodup) (C:out.length<=1000):aA PQ G jR [.own 0,.cl qT []] [some (.arr 2 (out.map fA))] λr T=>r=.tup []/\∃s:List (Int×Int),s.Perm out/\T=[some (.arr 2 (s.map fA))]:=by
 let α:={f:Int×Int // f∈out\/(out=[]/\f=(0,0))}
 have:Inhabited α:=⟨if h:out=[] then⟨(0,0),.inr ⟨h,rfl⟩⟩ else⟨out.head h,.inl (List.head_mem h)⟩⟩
 let cf:α->α->Int:=λx y=>wG x.1.1 y.1.1;have a:∀x y:α,Go.Proofs.ltOf cf x y=decide (x.1.1<y.1.1):=by intro x y;unfold Go.Proofs.ltOf;show decide (wG x.1.1 y.1.1<0)=_;rw[decide_eq_decide];exact aCX ..
 have d:=SW (α:=α) (k:=2) (enc:=λc=>[.int .i64 c.1.1,.int .i64 c.1.2]) Go.Proofs.Tryz.laysSortF Go.Proofs.Tryz.isAgg320 Go.Proofs.Tryz.sizeOf320 (λ_=>rfl) (λx v p=>by simp at p;rcases p with rfl|rfl<;>rfl)
  (λx c q=>by simp[cellsOf]at q;rcases q with rfl|rfl<;>rfl) (cf:=cf)
  ⟨λx=>by rw[a];simp,λx y z h1 h2=>by rw[a]at *;simp at *;omega,λx y z h1 h2=>by rw[a]at *;simp at *;omega⟩
  (λx y h1 h2=>by
   rw[a]at *
   simp at h1 h2;apply Subtype.ext;rcases x.2 with n|⟨n,o⟩
   rcases y.2 with b|⟨b,l⟩
   have A:x.1.1=y.1.1:=o_;obtain⟨i,w,m⟩:=List.mem_iff_getElem.1 n;obtain⟨j,u,e⟩:=List.mem_iff_getElem.1 b;have:i=j:=(C9 (xs:=out.map (·.1)) (h₀:=by simpa using w) (h₁:=by simpa using u) t).1 (by rw[zL,zL,m,e,A]);subst this;rw[<-m,<-e];exact absurd b (List.ne_nil_of_mem n);rcases y.2 with b|⟨b,l⟩
   exact absurd n (List.ne_nil_of_mem b)
   rw[o,l]) (g:=qT) (Go.Proofs.enters_of Go.Proofs.Tryz.func326 g_ rfl) (Go.Proofs.enters_of Go.Proofs.Tryz.func325 g_ rfl) (G:=G) (λx y=>aBx x.1 y.1) (out.attach.map λx=>⟨x.1,.inl x.2⟩) (by rw[aP,List.length_attach];omega)
 have B:(out.attach.map λx=>(⟨x.1,.inl x.2⟩:α)).map (cellsOf λc:α=>[.int .i64 c.1.1,.int .i64 c.1.2])=out.map fA:=by rw[rI,show((cellsOf λc:α=>[.int .i64 c.1.1,.int .i64 c.1.2])∘λx:{x // x∈out}=>(⟨x.1,.inl x.2⟩:α))=fA∘Subtype.val from rfl,<-rI,X4]
 rw[B]at d;apply d.mono;rintro r D ⟨rfl,rfl⟩;refine⟨rfl,((out.attach.map λx=>(⟨x.1,.inl x.2⟩:α)).mergeSort λx y=>!(Go.Proofs.ltOf cf) y x).map Subtype.val,?_,?_⟩;refine((H4 _ _).map Subtype.val).trans (.of_eq ?_);rw[rI,show(Subtype.val∘λx:{x // x∈out}=>(⟨x.1,.inl x.2⟩:α))=Subtype.val from rfl,X4];rw[rI];rfl
theorem aGp(hd:AV)(l:D_)(hl:l.length<=1000):aA PQ G DQ [hd,ids l] T λr T'=>(∃M:List (Int×Int),M.Perm (mX l).2/\r=.ls 2 (M.map fA))/\T'=T:=by
 refine(aA.keepLs (q:=λk es=>k=2/\∃M:List (Int×Int),M.Perm (mX l).2/\es=M.map fA) (fT Ld ?_)).mono ?_;rotate_left;simp_all;simp only[go_sem,ids,aP,nY]
 refine kL (λn Q=>∃(i:Nat)(bs c:V_)(cl f:Nat)(Y:aK),i<=l.length/\n=l.length-i/\Bs (mX (l.take i)).1.length bs cl/\Bs (mX (l.take i)).2.length c f /\
   Q=⟨T.length,[(19,iv i),(18,iv l.length),(17,ids l),(6,.mp (T.length+1)),(5,.mp T.length)],T++some (RZ (mX (l.take i)).1 bs cl)::some (AO (mX (l.take i)).2 c f)::Y⟩) l.length ⟨0,[],[],0,0,[],pR _,rfl,⟨rfl,by simp,by simp⟩,⟨rfl,by simp,by simp⟩,rfl⟩ ?_
 rintro n Q ⟨i,bs,c,cl,f,Y,hi,ah,H,g,rfl⟩;rcases eD i l.length with s|ap;have g0:(l.map Id.A)[i]?=some l[i].A:=aO _ l i s;have P:=fQ i (by omega);have u:mX (l.take (i+1))=pM (mX (l.take i)) l[i]:=by rw[lB s,mX,Hy];rfl
 have hc:0<=wM (mX (l.take i)).1 (l[i].a,l[i].b)/\wM (mX (l.take i)).1 (l[i].a,l[i].b)<=1000:=by have h1:=TJ (l[i].a,l[i].b) (l.take i) ([],[]);have h2:=List.countP_le_length (p:=λx:Id=>decide ((x.a,x.b)=(l[i].a,l[i].b))) (l:=l.take i);rw[eC]at h2;unfold mX;rw[h1];have:wM (([]:List ((Int×Int)×Int)),([]:List (Int×Int))).1 (l[i].a,l[i].b)=0:=rfl;omega
 generalize av:mX (l.take i)=s0 at *
 obtain⟨S,L⟩:=s0;simp only at H g hc;generalize l[i]=z at *
 rw[show RZ S bs cl=AObj.map true (S.map λe=>[.int .i64 e.1.1,.int .i64 e.1.2]) (S.map λe=>iv e.2) bs cl from rfl,show AO L c f=AObj.map false (L.map λe=>iK e.1) (L.map λe=>iv e.2) c f from rfl];have wc:IntKind.i64.wrap (wM S (z.a,z.b)+1)=wM S (z.a,z.b)+1:=aJ (by omega) (by omega);rcases aBv S (z.a,z.b) H with⟨j,hj,B,D,E,o⟩|⟨B,D,o⟩
 have ao:j<(S.map λe=>iv e.2).length:=by grind
 have w:∀y:AV,((S.map λe=>iv e.2).set j y)[j]?=some y:=λy=>by rw[List.getElem?_set_self ao]
 have F:bs[j]?=some bs[j]:=jN hj;by_cases h2:wM S (z.a,z.b)+1<2;have nG:pM (S,L) z=(oW S (z.a,z.b) (wM S (z.a,z.b)+1),L):=by grind[pM]
 simp only[go_sem,ids,aT s,g0,P,B,D,E,F,w,wc,h2,decide_true,nY];exact⟨_,(by omega:l.length-(i+1)<n),i+1,_,c,_,f,_,by omega,rfl,by rw[u,nG];exact(o _).2,by rw[u,nG];exact g,by rw[u,nG,<-(o _).1];rfl⟩;have t:=KY L z.a;rw[show iK z.a=[.int .i64 z.a] from rfl]at t;rcases TF L z.a z.b g with⟨R,N,az,O,I⟩|⟨N,O,I⟩
 rw[N]at t;have hf:L.findIdx? (λe=>z.a==e.1)=some R:=by simpa using t.symm
 have gv:(L.map λe=>iv e.2)[R]?=some (iv (L.getD R (0,0)).2):=by simp_all
 have al:K9 L z=decide (z.b<(L.getD R (0,0)).2):=by rw[K9,hf]
 by_cases h3:z.b<(L.getD R (0,0)).2;have nG:pM (S,L) z=(oW S (z.a,z.b) (wM S (z.a,z.b)+1),nZ L z.a z.b):=by grind[pM]
 simp only[go_sem,ids,aT s,g0,P,B,D,E,F,w,wc,h2,h3,N,gv,decide_true,decide_false,undef,nY];exact⟨_,(by omega:l.length-(i+1)<n),i+1,_,_,_,_,_,by omega,rfl,by rw[u,nG];exact(o _).2,by rw[u,nG];exact I,by rw[u,nG,<-(o _).1,<-O]⟩;have nG:pM (S,L) z=(oW S (z.a,z.b) (wM S (z.a,z.b)+1),L):=by grind[pM,Bool.false_eq_true]
 simp only[go_sem,ids,aT s,g0,P,B,D,E,F,w,wc,h2,h3,N,gv,decide_false,undef,nY];exact⟨_,(by omega:l.length-(i+1)<n),i+1,_,c,_,f,_,by omega,rfl,by rw[u,nG];exact(o _).2,by rw[u,nG];exact g,by rw[u,nG,<-(o _).1];rfl⟩;rw[N]at t;have hf:L.findIdx? (λe=>z.a==e.1)=none:=by simpa using t.symm
 have al:K9 L z=true:=by rw[K9,hf]
 have nG:pM (S,L) z=(oW S (z.a,z.b) (wM S (z.a,z.b)+1),nZ L z.a z.b):=by grind[pM]
 simp only[go_sem,ids,aT s,g0,P,B,D,E,F,w,wc,h2,N,decide_false,undef,nY];exact⟨_,(by omega:l.length-(i+1)<n),i+1,_,_,_,_,_,by omega,rfl,by rw[u,nG];exact(o _).2,by rw[u,nG];exact I,by rw[u,nG,<-(o _).1,<-O]⟩;have aq:=MV H.lt;have ae:=λy:AV=>JM (x:=AV.v (.int .i64 0)) (y:=y) (show(S.map λe=>iv e.2).length=bs.length by rw[aP,H.len]);have am:eR [.int .i64,.int .i64] [.int .i64 z.a,.int .i64 z.b] ((S.map λe=>[.int .i64 e.1.1,.int .i64 e.1.2])++[[.int .i64 z.a,.int .i64 z.b]]) 0=some (some S.length):=by have h1:=D9 (z.a,z.b) (S++[((z.a,z.b),1)]) 0;have h2:=D9 (z.a,z.b) S 0;grind
 have w:∀y:AV,((S.map λe=>iv e.2)++[y])[S.length]?=some y:=λy=>by simp
 have w1:IntKind.i64.wrap (0+1)=1:=by decide
 have nG:pM (S,L) z=(oW S (z.a,z.b) 1,L):=by grind[pM]
 simp only[go_sem,ids,aT s,g0,P,B,aq,ae,am,w,nY];exact⟨_,(by omega:l.length-(i+1)<n),i+1,_,c,_,f,_,by omega,rfl,by rw[u,nG];exact(o 1).2,by rw[u,nG];exact g,by rw[u,nG,<-(o 1).1];rfl⟩
 ·obtain rfl:i=l.length:=by omega
  rw[dE]at H g⊢;have K:=Ka l ([],[]);have J:=JU l ([],[]) (by simp);rw[show l.foldl pM ([],[])=mX l from rfl]at K J;simp only[gQ,pQ]at K;generalize mX l=s0 at *
  obtain⟨S,L⟩:=s0;simp only at H g K J;rw[show AO L c f=AObj.map false (L.map λe=>iK e.1) (L.map λe=>iv e.2) c f from rfl];simp only[go_sem,aS (bP _),nY]
  refine kL (λn Q=>∃(d:V_)(out:List (Int×Int)),d.Nodup/\(∀b∈d,b∈c)/\n=c.length-d.length/\out.Perm (((L.zip c).filter λq=>decide (q.2∈d)).map (·.1)) /\
   ∃(Z:aK)(k m:Nat),Z[1]?=some (some (AObj.map false (L.map λe=>iK e.1) (L.map λe=>iv e.2) c f))/\Z[k]?=some (some (.arr 2 (out.map fA)))/\Z[m]?=some (some (.mit (some (T.length+1)) f d f)) /\
    ∃Sl,(Sl=[(60,.ptr (T.length+m) 0),(12,.own (T.length+k))]\/Sl=[(12,.own (T.length+k)),(60,.ptr (T.length+m) 0)])/\Q=⟨T.length,Sl,T++Z⟩) c.length
   ⟨[],[],by simp,by simp,rfl,by simp,_,Y.length+2,Y.length+3,rfl,by rw[oX,oX,aD];rfl,by rw[oX,oX,aR],_,.inl rfl,rfl⟩ ?_
  clear H ah ap hi;rintro n Q ⟨d,out,ai,U,hn,hJ,Z,k,m,z1,zk,zm,Sl,au,rfl⟩;rcases au with rfl|rfl
  all_goals (
   simp only[go_sem]
   refine VD (i:=T.length+m) (j:=T.length+1) (kU (by rw[aZ];exact zm)) (kU (by rw[aZ];exact z1)) (cN _) g.lt (by simp[g.len]) (by simp[g.len]) (λaa=>?_) λe O V=>?_
   have cE:out.Perm L:=by
    refine hJ.trans (.of_eq ?_);have e1:(L.zip c).map (·.1)=L:=by rw[List.map_fst_zip];have:=g.len;omega
    conv=>rhs;rw[<-e1]
    refine congrArg _ (Gm.2 λq hq=>?_);have:q.2∈d:=aa _ (List.of_mem_zip (show(q.1,q.2)∈L.zip c from hq)).2;simp[this]
   simp only[go_sem]
   refine aG [T.length+k] (aB _) (by simp) (by simpa using dB zk) (by simp only[xF,Bd,Zg]) (Zh (by rw[aZ];exact zk)) (aGo out ((cE.map _).nodup_iff.2 J) (by rw[cE.length_eq];omega)) ?_
   rintro r T' ⟨rfl,M,t,rfl⟩
   simp only[go_sem,IF,DC,cP]
   exact⟨aH,_,2,_,rfl,by omega,by rw[aZ];exact dS zk,rfl,M,t.trans cE,rfl⟩
   have ba:e<L.length:=by have:=g.len;omega
   have ar:=VE g.nd O
   have gk:(L.map λe=>iK e.1)[e]?=some (iK L[e].1):=by simp_all
   have gv:(L.map λe=>iv e.2)[e]?=some (iv L[e].2):=by simp_all
   have ak:m≠k:=by grind
   have ax:m≠1:=by grind
   have an:k≠1:=by grind
   have y1:(Z.set m (some (.mit (some (T.length+1)) f (d++[c[e]]) f)))[1]?=some (some (AObj.map false (L.map λe=>iK e.1) (L.map λe=>iv e.2) c f)):=by simp_all
   have yk:(Z.set m (some (.mit (some (T.length+1)) f (d++[c[e]]) f)))[k]?=some (some (.arr 2 (out.map fA))):=by simp_all
   have ym:(Z.set m (some (.mit (some (T.length+1)) f (d++[c[e]]) f)))[m]?=some (some (.mit (some (T.length+1)) f (d++[c[e]]) f)):=dS zm
   generalize hY:Z.set m (some (.mit (some (T.length+1)) f (d++[c[e]]) f))=W at y1 yk ym
   have ol:out.length+1<=maxLen/\(out.length+1)*16<=140737488355328:=by have h1:=hJ.length_eq;rw[aP]at h1;have h2:=List.length_filter_le (λq:(Int×Int)×Nat=>decide (q.2∈d)) (L.zip c);rw[List.length_zip]at h2;unfold maxLen;omega
   have ab:=λX:aK=>aF (X:=X) yk
   simp only[go_sem,aZ,cP,hY,ym,y1,Ke,ar,gk,gv,iY,ab,aP,ol.1,ol.2,nY]
   have C:(d++[c[e]]).Nodup/\(∀b∈d++[c[e]],b∈c)/\c.length-(d++[c[e]]).length<n:=by
    have aj:(d++[c[e]]).Nodup:=vQ.2 ⟨ai,by simp,λx hx y hy e'=>V (by rw[cA]at hy;rw[<-hy,<-e'];exact hx)⟩;have C:∀b∈d++[c[e]],b∈c:=λb H=>(cG.1 H).elim (U b) λh=>by rw[cA.1 h];exact eQ O
    have ay:=List.Nodup.length_le_of_subset aj C;simp_all;omega
   have af:(out++[L[e]]).Perm (((L.zip c).filter λq=>decide (q.2∈d++[c[e]])).map (·.1)):=by
    have ac:(L[e],c[e])∈L.zip c:=by grind[List.mem_iff_getElem,List.length_zip]
    have ad:(L.zip c).map (·.2)=c:=by rw[List.map_snd_zip];have:=g.len;omega
    have:=(D8 (by rw[ad];exact g.nd) ac V).map (·.1);grind
   have aw:=dB ym
   refine⟨_,C.2.2,_,out++[L[e]],C.1,C.2.1,rfl,af,_,W.length+1,m,?_,?_,?_,_,.inr rfl,rfl⟩
   refine aF ?_
   rw[aY an]
   exact aF y1
   rw[bZ]
   exact TB (by simp only[cL,dZ,sE,gQ])
   refine aF ?_
   rw[aY (Ne.symm ak)]
   exact aF ym)
def aIQ(x:AV)(l:D_)(w:l.length<=1000):aA PQ G Bh [x,ids l] T λr u=>(∃a:List (Int×Int),a.Perm (mX l).2/\r=ids (sQ (a.flatMap λf=>sQ (PN l f.1 f.2 4611686018427387904))))/\u=T:=by
 refine(aA.keepLs (q:=λk L=>k=3/\∃a:List (Int×Int),a.Perm (mX l).2/\L=(sQ (a.flatMap λf=>sQ (PN l f.1 f.2 4611686018427387904))).map Id.A) (fT Oc ?_)).mono ?_;rotate_left;simp_all;simp only[go_sem,nY];apply jA (aGp x l w);rintro y u ⟨⟨a,h,rfl⟩,M⟩;obtain rfl:=M.symm;simp only[go_sem,aP];have E:a.length<=1000:=by rw[h.length_eq];have:=Ka l ([],[]);rw[show l.foldl pM ([],[])=mX l from rfl]at this;simp_all;omega
 have b:∀f:Int×Int,(sQ (PN l f.1 f.2 4611686018427387904)).length<=1000:=λf=>by grind[W9,PN]
 generalize I:(λf:Int×Int=>sQ (PN l f.1 f.2 4611686018427387904))=F at *
 have j:∀f:Int×Int,sQ (PN l f.1 f.2 4611686018427387904)=F f:=λf=>by rw[<-I]
 simp only[j]at b;have t:∀a:List (Int×Int),(a.flatMap F).length<=a.length*1000:=by
  intro a
  induction a with
  |nil=>simp|cons f a ih=>
   grind
 refine kL (λn v=>∃i,i<=a.length/\n=a.length-i/\∃(X:aK)(k:Nat),X[k]?=some (some (.arr 3 (((a.take i).flatMap F).map Id.A))) /\
  ∃S,(S=[(12,iv i),(11,iv a.length),(10,.ls 2 (a.map fA)),(5,.own (T.length+k)),(1,ids l)]\/S=[(12,iv i),(5,.own (T.length+k)),(11,iv a.length),(10,.ls 2 (a.map fA)),(1,ids l)])/\v=⟨T.length,S,T++X⟩) a.length ⟨0,pR _,rfl,_,0,rfl,_,.inl rfl,rfl⟩ ?_
 rintro n v ⟨i,N,C,X,k,m,S,z,rfl⟩;rcases eD i a.length with c|D;rotate_left
 ·obtain rfl:i=a.length:=o_;rw[dE]at m;have e:(a.flatMap F).length<2^62:=by have:=t a;omega
  have d:=G5 (G:=G) (T:=T++X) (k:=T.length+k) (by rw[aZ];exact m) e;rcases z with rfl|rfl
  all_goals (
   simp only[go_sem,aS (bP _)]
   apply jA d
   rintro r u ⟨rfl,rfl⟩
   simp only[go_sem,cP]
   exact⟨aH,_,3,_,rfl,o_,by rw[aZ];exact dS m,rfl,a,h,rfl⟩)
 have B:=fQ i o_;have J:(a.map fA)[i]?=some [iv a[i].1,iv a[i].2]:=by rw[gE,jN c];rfl
 have K:(a.take (i+1)).flatMap F=(a.take i).flatMap F++F a[i]:=by rw[lB c,List.flatMap_append];simp
 have e:((a.take i).flatMap F).length<=1000000:=f_;have g:=λX:aK=>aBu (G:=G) (T:=X) l w a[i].1 a[i].2 4611686018427387904;rw[j]at g;have H:=b a[i];generalize(a.take i).flatMap F=out at *
 have o:=λY:aK=>aF (X:=Y) m;have s:out.length+(F a[i]).length<=maxLen:=a_;have p:(out.length+(F a[i]).length)*24<=140737488355328:=o_;rcases z with rfl|rfl
 all_goals (
  simp only[go_sem,aT c,J,nY]
  apply cI (g _)
  simp only[go_sem,ids,aP,B,o,s,p,nY]
  refine⟨a.length-(i+1),o_,i+1,o_,rfl,_,X.length+1,?_,_,.inr rfl,rfl⟩
  rw[K,bZ]
  exact TB k0)
end
def Kb(l:D_)(d s:Int):Prop:=2<=l.countP λx=>decide ((x.a,x.b)=(d,s))
def aIR{L:List (Int×Int)}(h:(L.map (·.1)).Nodup){d s s':Int}(h1:(d,s)∈L)(h2:(d,s')∈L):s=s':=by obtain⟨i,b,e⟩:=List.mem_iff_getElem.1 h1;obtain⟨j,a,c⟩:=List.mem_iff_getElem.1 h2;have:i=j:=(C9 (xs:=L.map (·.1)) (h₀:=R_) (h₁:=H_) h).1 (by rw[zL,zL,e,c]);simp_all
def EA{L:List (Int×Int)}(h:(L.map (·.1)).Nodup){a s0 d s:Int}:(d,s)∈nZ L a s0↔(d=a/\s=s0)\/(d≠a/\(d,s)∈L):=by
 unfold nZ
 cases e:L.findIdx? (λe=>a==e.1) with
 |none=>
  grind
 | some j=>
  obtain⟨k,c,_⟩:=Ad.1 e;have n:a=L[j].1:=da;show(d,s)∈L.set j (a,s0)↔_;rw[List.mem_iff_getElem?];constructor;rintro⟨i,b⟩;rw[Hx]at b;split at b;simp_all;rename_i f;have m:=Kd b;refine .inr ⟨λe=>f ?_,m⟩;obtain⟨g,l⟩:=sV.1 b;exact((C9 (xs:=L.map (·.1)) (h₀:=kj) (h₁:=by simpa using k) h).1 (by rw[zL,zL,l,<-n,e])).symm;rintro(⟨rfl,rfl⟩|⟨h1,h2⟩);exact⟨j,by rw[Hx,if_pos rfl,if_pos k]⟩;obtain⟨i,b,l⟩:=List.mem_iff_getElem.1 h2;refine⟨i,?_⟩;grind
def Ra{L:List (Int×Int)}(h:(L.map (·.1)).Nodup)(x:Id):K9 L x=true↔∀s,(x.a,s)∈L->x.b<s:=by
 unfold K9
 cases e:L.findIdx? (λe=>x.a==e.1) with
 |none=>
  grind
 |some j=>
  obtain⟨i,c,_⟩:=Ad.1 e;have k:x.a=L[j].1:=da;have d:(x.a,L[j].2)∈L:=f_;have g:(L.getD j (0,0)).2=L[j].2:=t_;simp only[g,decide_eq_true_iff];exact⟨λh1 s f=>by rw[aIR h f d];exact h1,λh1=>h1 _ d⟩
def Rb:∀(n:Nat)(l:D_),l.length=n->(∀d s,(d,s)∈(mX l).2->Kb l d s)/\∀d s,Kb l d s->∃f,f<=s/\(d,f)∈(mX l).2
 |0,l,h=>by
  grind[mX,Kb]
 | n+1,l,h=>by
  obtain⟨c,x,rfl⟩:∃c x,l=c++[x]:=⟨l.dropLast,l.getLast (by rintro rfl;simp at h),(List.dropLast_concat_getLast _).symm⟩
  have h0:c.length=n:=x_;obtain⟨v,u⟩:=Rb n c h0;have e:=JU c ([],[]) s_;have w:=TJ (x.a,x.b) c ([],[]);rw[show c.foldl pM ([],[])=mX c from rfl]at e w;have r:wM (([]:List ((Int×Int)×Int)),([]:List (Int×Int))).1 (x.a,x.b)=0:=rfl;rw[r,Int.zero_add]at w;have E:mX (c++[x])=pM (mX c) x:=by rw[mX,Hy];rfl
  have C:∀d s,(c++[x]).countP (λx=>decide ((x.a,x.b)=(d,s)))=c.countP (λx=>decide ((x.a,x.b)=(d,s)))+if(x.a,x.b)=(d,s) then 1 else 0:=λd s=>s_
  have j:∀d s,¬(x.a,x.b)=(d,s)->(Kb (c++[x]) d s↔Kb c d s):=λd s B=>by simp_all[Kb,mG]
  have g:∀d s,Kb c d s->Kb (c++[x]) d s:=λd s m=>by grind[Kb]
  have q:Kb (c++[x]) x.a x.b↔¬wM (mX c).1 (x.a,x.b)+1<2:=by grind[Kb]
  rw[E,pM];generalize mX c=z at *
  obtain⟨S,L⟩:=z;dsimp only at *
  by_cases h2:wM S (x.a,x.b)+1<2;grind;rw [if_neg h2];by_cases h3:K9 L x=true;rw[if_pos h3];have D:=(Ra e x).1 h3;refine⟨λd s p=>?_,λd s m=>?_⟩;rcases(EA e).1 p with⟨rfl,rfl⟩|⟨_,t⟩
  exact q.2 h2;exact g _ _ (v d s t);by_cases i:(x.a,x.b)=(d,s)
  obtain⟨rfl,rfl⟩:=Prod.mk.inj i;exact⟨x.b,Int.le_refl _,(EA e).2 (.inl ⟨rfl,rfl⟩)⟩;obtain⟨f,t,y⟩:=u d s ((j d s i).1 m);by_cases k:d=x.a;subst k;have:=D f y;exact⟨x.b,o_,(EA e).2 (.inl ⟨rfl,rfl⟩)⟩;exact⟨f,t,(EA e).2 (.inr ⟨k,y⟩)⟩;rw[if_neg h3];refine⟨λd s p=>g _ _ (v d s p),λd s m=>?_⟩;by_cases i:(x.a,x.b)=(d,s)
  obtain⟨rfl,rfl⟩:=Prod.mk.inj i;rw[Ra e]at h3;apply QB;intro o;refine h3 λs A=>?_;apply QB;intro F;exact o ⟨s,o_,A⟩;exact u d s ((j d s i).1 m)
def Vi{l:D_}(p:l.Nodup){d s:Int}:Kb l d s↔∃y∈l,∃z∈l,y≠z/\(y.a,y.b)=(d,s)/\(z.a,z.b)=(d,s):=by
 unfold Kb;rw[List.countP_eq_length_filter];have f:(l.filter λx=>decide ((x.a,x.b)=(d,s))).Nodup:=p.sublist List.filter_sublist;constructor;intro h;have j:(l.filter λx=>decide ((x.a,x.b)=(d,s)))[0]∈l.filter λx=>decide ((x.a,x.b)=(d,s)):=eQ _;have i:(l.filter λx=>decide ((x.a,x.b)=(d,s)))[1]∈l.filter λx=>decide ((x.a,x.b)=(d,s)):=eQ _;refine⟨_,(gR.1 j).1,_,(gR.1 i).1,λe=>?_,of_decide_eq_true (gR.1 j).2,of_decide_eq_true (gR.1 i).2⟩;have:=(C9 (h₀:=o_) (h₁:=o_) f).1 e;omega;rintro⟨y,o,z,n,g,h1,h2⟩;have m:y∈l.filter λx=>decide ((x.a,x.b)=(d,s)):=gR.2 ⟨o,decide_eq_true h1⟩;have k:z∈l.filter λx=>decide ((x.a,x.b)=(d,s)):=gR.2 ⟨n,decide_eq_true h2⟩;have h3:[y,z].Nodup:=by simp[g]
 exact List.Nodup.length_le_of_subset h3 (λw c=>by
  rcases cS.1 c with rfl|c;exact m
  rw[cA.1 c];exact k)
def aBy{l:D_}(g:l.Nodup)(x:Id):B8 l x=true↔∃s,(x.a,s)∈(mX l).2/\s<=x.b:=by
 obtain⟨m,k⟩:=Rb _ l rfl;have n:B8 l x=true↔∃y∈l,∃z∈l,y≠z/\y.a=x.a/\z.a=x.a/\y.b=z.b/\y.b<=x.b:=by unfold B8;simp only[CX,zJ,EX,decide_eq_false_iff_not,beq_iff_eq,decide_eq_true_iff]
 rw[n];constructor;rintro⟨y,e,z,d,c,h1,h2,h3,i⟩;obtain⟨j,h,f⟩:=k x.a y.b ((Vi g).2 ⟨y,e,z,d,c,by rw[h1],by rw[h2,h3]⟩);exact⟨j,f,o_⟩;rintro⟨s,h1,h2⟩;obtain⟨y,e,z,d,c,h3,i⟩:=(Vi g).1 (m _ _ h1);obtain⟨h,f⟩:=Prod.mk.inj h3;obtain⟨p,o⟩:=Prod.mk.inj i;exact⟨y,e,z,d,c,h,p,by rw[f,o],o_⟩
def Zi{l:D_}(i:l.Nodup)(F:Int×Int->D_)(c:∀f,(F f).Perm (PN l f.1 f.2 4611686018427387904)):∀d:List (Int×Int),(d.map (·.1)).Nodup->(d.flatMap F).Nodup|[],_=>by simp|f::d,h=>by rw[fG,BU]at h;rw[List.flatMap_cons,vQ];refine⟨(c f).nodup_iff.2 (i.sublist List.filter_sublist),Zi i F c d h.2,λa m b k e=>?_⟩;subst e;obtain⟨n,j,g⟩:=H7.1 k;have h1:=(gR.1 ((c f).mem_iff.1 m)).2;have h2:=(gR.1 ((c n).mem_iff.1 g)).2;simp_all
def aEP(G:L_):TI G:=by
 intro T p g l h u j q;have k:l.length<=1000:=by have:=List.Nodup.length_le_of_subset j q;have h2:=u.ok.n;grind[PGM.I,List.length_map]
 refine(aIQ (.ptr p.1 0) l k).mono ?_;rintro r z ⟨⟨e,c,rfl⟩,rfl⟩;have o:∀f:Int×Int,(sQ (PN l f.1 f.2 4611686018427387904)).Perm (PN l f.1 f.2 4611686018427387904):=λf=>H4 _ _;have m:(e.map (·.1)).Nodup:=(c.map _).nodup_iff.2 (JU l ([],[]) s_);have t:(sQ (e.flatMap λf=>sQ (PN l f.1 f.2 4611686018427387904))).Perm (e.flatMap λf=>sQ (PN l f.1 f.2 4611686018427387904)):=H4 _ _;refine⟨⟨_,λx=>?_,t.nodup_iff.2 (Zi j _ o e m),rfl⟩,rfl⟩;rw[t.mem_iff,H7,aBy j];constructor;rintro⟨f,y,d⟩;have h1:=gR.1 ((o f).mem_iff.1 d);grind;rintro⟨d,s,h1,h2⟩;refine⟨(x.a,s),c.mem_iff.2 h1,(o _).mem_iff.2 (gR.2 ⟨d,?_⟩)⟩;have v:x.b<=2^62:=by obtain⟨w,i,rfl⟩:=dF.1 (q x d);exact u.idb _ i
 simp_all
def LA{g:PGM}{V W:D_}(h:∀x,x∈V↔x∈W)(row:D_):mW g V row=mW g W row:=by unfold mW;congr 1;grind[iS]
theorem BR{V:D_}{x y:Id}:x∈AQ V y↔x∈V\/x=y:=by grind[AQ]
def PK{V W:D_}(h:∀x,x∈V↔x∈W)(y:Id):∀x,x∈AQ V y↔x∈AQ W y:=λx=>by rw[BR,BR,h]
def Fs{p:Id->Bool}:∀(row V W:D_),(∀x,x∈V↔x∈W)->∀x,x∈row.foldl (λV y=>if p y=true then AQ V y else V) V↔x∈row.foldl (λV y=>if p y=true then AQ V y else V) W|[],_,_,h=>h|y::row,V,W,h=>by rw[CW,CW];apply Fs row _ _;split;exact PK h y;exact h
def Ft{g:PGM}{row:D_}{S:List (Int×Int)}:∀(n:Nat)(V W left:D_),(∀x,x∈V↔x∈W)->∀x,x∈uL g row S n V left↔x∈uL g row S n W left
 |0,_,_,_,h=>h
 | n+1,V,W,left,h=>by
  have a:left.filter (λx=>!decide (x∈V))=left.filter λx=>!decide (x∈W):=List.filter_congr λx _=>by simp only[h]
  rw[uL,uL,a,LA h];dsimp only;split;exact h;split;exact Ft n _ _ _ (Fs (p:=λy=>lA g _ y||(decide (y∈_)&&B7 g row _ y)) row V W h);exact Ft n _ _ _ (PK h _)
def Xw{g:PGM}{row V W:D_}(h:∀x,x∈V↔x∈W):∀x,x∈sU g row V↔x∈sU g row W:=Ft _ _ _ _ h
def zH(l:D_):D_:=l.filter (B8 l)
def kW(g:PGM)(l:D_):D_:=mW g (sU g (eO g l) (zH l)) (eO g l)
def Rc{l V:D_}(h:∀x,x∈V↔x∈l/\B8 l x=true):∀x,x∈V↔x∈zH l:=λx=>by rw[h,zH,gR]
def PL{g:PGM}{l V:D_}(h:∀x,x∈V↔x∈l/\B8 l x=true):mW g (sU g (eO g l) V) (eO g l)=kW g l:=LA (Xw (Rc h)) _
def aGq{g:PGM}{l V:D_}(h:∀x,x∈V↔x∈l/\B8 l x=true)(x:Id):Gk g l V x=Gk g l (zH l) x:=by unfold Gk;rw[PL h];have h1:mW g (sU g (eO g l) (zH l)) (eO g l)=kW g l:=rfl;rw[h1];simp only[Rc h]
section
variable{T:aK}{p:Nat×Nat×Nat}{g:PGM}
def Vj(j:AK G)(h:GAt T p g)(f:GGood g){l:D_}(c:∀x∈l,x∈g.I)(e:l.Nodup):
 aA PQ G pN [.ptr p.1 0,ids l] T λr a=>r=ids (kW g l)/\a=T :=
 (aEN j (aEP G) h f c e).mono λr a ⟨⟨V,i,d⟩,b⟩=>⟨by rw[d,PL i],b⟩
def aHg(j:AK G)(h:GAt T p g)(f:GGood g){l:D_}(c:∀x∈l,x∈g.I)(e:l.Nodup)(x:Id):
 aA PQ G wB [.ptr p.1 0,ids l,.ag x.A] T λr a=>r=iv (Gk g l (zH l) x)/\a=T :=
 (aKN j (aEP G) h f c e x).mono λr a ⟨⟨V,i,d⟩,b⟩=>⟨by rw[d,aGq i],b⟩
def aRl(j:AK G)(h:GAt T p g)(f:GGood g){l:D_}(d:∀x∈l,x∈g.I)(e:l.Nodup):
 aA PQ G aK2 [.ptr p.1 0,ids l] T λy b=>∃s:RP,y=.ptr s.root 0/\Above T b s (aMG g (kW g l)):=
 (aRk j (aEP G) h f d e).mono λy b ⟨V,s,i,c,a⟩=>⟨s,c,by rw[PL i]at a;exact a⟩
end
def Rd{p:Id->Bool}:∀(row V:D_)(y:Id),y∈row.foldl (λV y=>if p y=true then AQ V y else V) V↔y∈V\/(y∈row/\p y=true)|[],V,y=>by simp|z::row,V,y=>by rw[CW,Rd row];split<;>grind[BR]
def Vk{g:PGM}{V:D_}{x:Id}:∀(row out:D_),x∈row.foldl (iS g V) out->x∈out\/(x∈row/\x∉V)|[],_,h=>.inl h|z::row,out,h=>by rcases Vk row _ h with h|h;grind[iS];simp_all
def Ac{g:PGM}{V row:D_}{x:Id}(h:x∈mW g V row):x∈row/\x∉V:=by simpa using Vk row [] h
def bfM(g:GM)(x y:Id):Bool:=decide (x∈g.I)&&(decide (y∈g.I)&&(g.In.getD (aW g.I y).toNat []).getD (aW g.I x).toNat false)
def aRm{p:PGM}{g:GM}(s:Sim p g)(d:g.L.length<=200)(x y:Id):oH p x y=bfM g x y:=by
 have h:p.I.length=g.L.length:=by rw[PGM.I,<-s.l,aP,aP]
 by_cases mx:x∈p.I;by_cases a:y∈p.I;obtain⟨j,c,f,_⟩:=dG mx;obtain⟨k,b,e,_⟩:=dG a;rw[aOJ s d c b o_ o_ mx a];rw[s.i]at mx a c b;unfold bfM aW qX inG;simp[mx,a,c,b];unfold oH bfM;rw[<-s.i];simp[a];unfold oH bfM;rw[<-s.i];simp[mx]
def RU.trans{a:List V_}{up:V_}{i k:Nat}(h:RU a up i)(h2:RU a (a.getD i []) k):RU a up k:=by
 induction h2 with
 |base h2=>exact .step h h2|step _ h3 ih=>exact .step ih h3
section
variable{g:GM}
def aJ3(b:g.I.length=g.L.length){x:Id}(a:x∈g.I):(aW g.I x).toNat<g.L.length:=by have h1:=(Cz g.I x).2 a;have h2:=(AZ g.I x).1;omega
def aQr(a:g.I.Nodup){i:Nat}(h:i<g.I.length):aW g.I g.I[i]=i:=by obtain⟨j,e,b,_,h2⟩:=dG (eQ h);have:j=i:=(C9 a).1 h2;unfold aW qX;rw[e,this]
def aIE{x:Id}(b:x∈g.I):g.I.getD (aW g.I x).toNat default=x:=by obtain⟨j,e,a,_,h2⟩:=dG b;unfold aW qX;rw[e];simp[rH,a,h2]
end
abbrev pl(g:GM)(x:Id):Nat:=(aW g.I x).toNat
structure Tie(p:PGM)(g:GM):Prop where
 s:Sim p g
 n:g.L.length<=200
 gi:g.I.length=g.L.length
 nd:g.I.Nodup
 rem:aQ9 g.L
 cd:p.cards=g.Cards
 gg:GGood p
 inn:g.In.length=g.L.length
 by':∀x∈g.I,(p.nd x).o.By=x.a
section
variable{p:PGM}{g:GM}
def Tie.op(h:Tie p g){x:Id}(a:x∈g.I):g.L.getD (pl g x) default=(p.nd x).o:=by rw[<-h.s.i]at a;obtain⟨j,b,c,_⟩:=dG a;rw[(aNR h.s b (by rw[<-h.gi,<-h.s.i];exact c)).1];unfold pl aW qX;rw[<-h.s.i,b];rfl
def Tie.bf(h:Tie p g){x y:Id}(b:x∈g.I)(a:y∈g.I):inG g (pl g y) (pl g x)=oH p x y:=by rw[aRm h.s h.n,bfM,decide_eq_true b,decide_eq_true a];rfl
def Tie.kill(h:Tie p g){x y:Id}(b:x∈g.I)(a:y∈g.I):aHG g (pl g x) (pl g y)=lA p x y:=by rw[aP0 h.s h.n h.rem,aPJ,decide_eq_true ((Cz g.I x).2 b),decide_eq_true ((Cz g.I y).2 a)];rfl
def aOg{x y:Id}(b:x∈g.I)(a:y∈g.I)(h:pl g x=pl g y):x=y:=by rw[<-aIE b,<-aIE a,show(aW g.I x).toNat=(aW g.I y).toNat from h]
def aOS{x:Id}(b:x∈g.I){l:D_}(c:∀y∈l,y∈g.I):pl g x∈l.map (pl g)↔x∈l:=by constructor;intro h;obtain⟨y,a,e⟩:=dF.1 h;rwa[<-aOg (c y a) b e];exact λh=>List.mem_map_of_mem h
def Tie.did(h:Tie p g){x:Id}(d:x∈g.I)(out:D_)(c:∀y∈out,y∈g.I):aJ5 g (out.map (pl g)) (pl g x)=Lo p out x:=by
 unfold aJ5 Lo;rw[h.cd];generalize RM.new g.Cards=r
 induction out generalizing r with
 |nil=>rfl|cons y out ih=>
  have b:=c y (.head _);rw[fG,CW,h.bf b d,List.filter_cons];split;rw[CW,ih (λz a=>c z (.tail _ a)),h.op b,aIE b];rfl;exact ih (λz a=>c z (.tail _ a)) r
def VB(g:GM)(v:List Bool)(V:D_):Prop:=∀x∈g.I,v.getD (pl g x) false=decide (x∈V)
def Tie.good(h:Tie p g){v:List Bool}{V:D_}(d:VB g v V):∀(row out:D_),(∀y∈row,y∈g.I)->(∀y∈out,y∈g.I)->(row.map (pl g)).foldl (aGd g v) (out.map (pl g))=(row.foldl (iS p V) out).map (pl g)
 |[],_,_,_=>rfl
 | x::row,out,f,i=>by
  have b:=f x (.head _);rw[fG,CW,CW];have e:aGd g v (out.map (pl g)) (pl g x)=(iS p V out x).map (pl g):=by unfold aGd iS;rw[h.did b out i,h.op b,d x b];by_cases a:x∉V/\mT (Lo p out x) (p.nd x).o=0;rw[if_pos a,if_pos (by simp[a.1,a.2]),bZ];rfl;rw[if_neg a,if_neg (by simpa using a)]
  rw[e];exact h.good d row _ (λy c=>f y (.tail _ c)) λy c=>by have:=S9.subset c;rcases cG.1 this with h1|h1;exact i y h1;rw[cA.1 h1];exact b
def Tie.need (h:Tie p g) (v:List Bool) (row:D_) (n:∀y∈row,y∈g.I) (q:row.Nodup) (i a:Nat):(aJ5 g (((row.map (pl g)).take i).foldl (aGd g v) []) a).need:=by
 obtain⟨V,o⟩:∃V,VB g v V:=⟨g.I.filter λx=>v.getD (pl g x) false,λx f=>by simp[f]⟩
 rw[<-QN,show([]:V_)=([]:D_).map (pl g) from rfl,h.good o (row.take i) [] (λy b=>n y (C8 b)) s_];have j:=Aa (g:=p) (V:=V) (row.take i) [];rw[dM]at j;have d:∀y∈(row.take i).foldl (iS p V) [],y∈g.I:=λy b=>n y (C8 (j.subset b));rcases eD a g.L.length with c|c;have e:a=pl g (g.I.getD a default):=by have:=aQr h.nd (i:=a) (by rw[h.gi];exact c);rw[rH,jN (by rw[h.gi];exact c)];unfold pl;rw[Mi,this];rfl
 have f:g.I.getD a default∈g.I:=by rw[rH,jN (by rw[h.gi];exact c)];exact eQ _
 rw[e,h.did f _ d];exact(RV h.gg (λy b=>by rw[h.s.i];exact d y b) (j.nodup (q.sublist (List.take_sublist _ _))) _).need;have e:∀(l:V_)(r:RM),l.foldl (λr k=>if inG g a k=true then BS r (g.L.getD k default) (g.I.getD k default) else r) r=r:=by
  intro l
  induction l with
  |nil=>exact λr=>rfl|cons k l ih=>
   intro r;rw[CW,if_neg (by rw[inG,rH (l:=g.In),sX (by rw[h.inn];exact c)];simp),ih]
 unfold aJ5;rw[e];intro m d;cases d
end
section
variable{p:PGM}{g:GM}{l:LD}{V row:D_}{s:B_}{S:List (Int×Int)}
def aOT{f:Nat->Bool}{q:Id->Bool}:∀(r:D_),(∀z∈r,f (pl g z)=q z)->(r.map (pl g)).any f=r.any q|[],_=>rfl|z::r,h=>by rw[fG,List.any_cons,List.any_cons,h z (.head _),aOT r λy a=>h y (.tail _ a)]
def Tie.waits(h:Tie p g)(f:l.row=row.map (pl g))(c:∀y∈row,y∈g.I){x y:Id}(b:x∈g.I)(d:y∈g.I):aE4 g l (pl g x) (pl g y)=B7 p row x y:=by have i:∀z∈g.I,decide (pl g z=pl g x)=decide (z=x):=λz a=>decide_eq_decide.2 ⟨aOg a b,λe=>by rw[e]⟩;unfold aE4 B7;rw[f,aOT (q:=λz=>(decide (z=x)||oH p z x)&&lA p y z) row λz a=>by rw[i z (c z a),h.bf (c z a) b,h.kill d (c z a)]];rw[show decide (pl g x=pl g y)=decide (x=y) from decide_eq_decide.2 ⟨aOg b d,λe=>by rw[e]⟩]
abbrev opn(g:GM)(l:LD)(x:Id):Bool:=aE5 g l (pl g x)
def Tie.first (h:Tie p g) (o:l.row=row.map (pl g)) (f:∀y∈row,y∈g.I) (v:∀x∈row,∀y∈row,aCE s x.a<aCE s y.a↔aBo S x.a<aBo S y.a):
 ∀(r d:D_)(b c:Int),row=d++r->(b=-1/\c=-1\/0<=c/\c.toNat<(row.filter (opn g l)).length/\b=pl g ((row.filter (opn g l)).getD c.toNat default)) ->
 ((aKs g l s (r.map (pl g)) b=-1/\AP p row S (row.filter (opn g l)) (r.filter (opn g l)) (d.filter (opn g l)).length c=-1)\/(0<=AP p row S (row.filter (opn g l)) (r.filter (opn g l)) (d.filter (opn g l)).length c/\(AP p row S (row.filter (opn g l)) (r.filter (opn g l)) (d.filter (opn g l)).length c).toNat<(row.filter (opn g l)).length/\aKs g l s (r.map (pl g)) b=pl g ((row.filter (opn g l)).getD (AP p row S (row.filter (opn g l)) (r.filter (opn g l)) (d.filter (opn g l)).length c).toNat default)))
 |[],d,b,c,_,m=>by simpa[aKs,AP]using m| x::r,d,b,c,u,m=>by
  have n:x∈row:=by rw[u];simp
  have k:row=(d++[x])++r:=by rw[u];simp
  rw[fG,aKs,List.filter_cons];by_cases i:aE5 g l (pl g x)=true;rotate_left;rw[if_neg i,if_neg i];have:=h.first o f v r (d++[x]) b c k m;rwa[Mf,List.filter_cons,if_neg i,List.filter_nil,jO]at this;rw[if_pos i,if_pos i,AP];have ea:(l.row.any λy=>aE5 g l y&&aE4 g l (pl g x) y)=(row.filter (opn g l)).any λy=>B7 p row x y:=by rw[o,aOT (q:=λy=>opn g l y&&B7 p row x y) row λz j=>by rw[h.waits o f (f x n) (f z j)],List.any_filter]
  have A:row.filter (opn g l)=d.filter (opn g l)++x::r.filter (opn g l):=by rw[u,Mf,List.filter_cons,if_pos i]
  have B:(row.filter (opn g l)).getD (d.filter (opn g l)).length default=x:=by rw[A,rH];simp
  have w:(d.filter (opn g l)).length<(row.filter (opn g l)).length:=by rw[A];simp
  rw[ea];split;have C:(b<0\/aCE s (byD g (pl g x))<aCE s (byD g b.toNat))↔(c<0\/aBo S x.a<aBo S ((row.filter (opn g l)).getD c.toNat default).a):=by
   rcases m with⟨rfl,rfl⟩|⟨h1,h2,rfl⟩
   exact⟨λ_=>.inl d_,λ_=>.inl d_⟩;have j:(row.filter (opn g l)).getD c.toNat default∈row:=by rw[rH,jN h2];exact(gR.1 (eQ h2)).1
   rw[byD,byD,nI,h.op (f x n),h.op (f _ j),h.by' _ (f x n),h.by' _ (f _ j),v x n _ j];refine or_congr ?_ .rfl;omega
  have:=h.first o f v r (d++[x]) (if b<0\/aCE s (byD g (pl g x))<aCE s (byD g b.toNat) then pl g x else b) (if c<0\/aBo S x.a<aBo S ((row.filter (opn g l)).getD c.toNat default).a then((d.filter (opn g l)).length:Int) else c) k (by
   by_cases t:c<0\/aBo S x.a<aBo S ((row.filter (opn g l)).getD c.toNat default).a;rw[if_pos t,if_pos (C.2 t)];exact .inr ⟨o_,by simpa using w,by rw[nI,B]⟩;rw[if_neg t,if_neg (λe=>t (C.1 e))]
   exact m)
  rwa[Mf,List.filter_cons,if_pos i,List.filter_nil,dZ,GT]at this;exact .inr ⟨o_,by simpa using w,by rw[nI,B]⟩
def Tie.next(h:Tie p g)(b:l.row=row.map (pl g))(d:∀y∈row,y∈g.I)(f:∀x∈row,∀y∈row,aCE s x.a<aCE s y.a↔aBo S x.a<aBo S y.a):
 (row.filter (opn g l)=[]/\aJa g l s<0)\/(row.filter (opn g l)≠[]/\(yY p row S (row.filter (opn g l))).toNat<(row.filter (opn g l)).length/\aJa g l s=pl g ((row.filter (opn g l)).getD (yY p row S (row.filter (opn g l))).toNat default)):=by
 have:=h.first b d f row [] (-1) (-1) rfl (.inl ⟨rfl,rfl⟩);rw[<-b]at this;rcases this with⟨h1,h2⟩|⟨h1,h2,h3⟩
 by_cases c:row.filter (opn g l)=[]
 exact .inl ⟨c,by rw[aJa,h1];decide⟩;have:=(RY (g:=p) (row:=row) (S:=S) c).1;rw[yY]at this;rw[List.filter_nil,gQ]at h2;omega;exact .inr ⟨λe=>by rw[e]at h2;simp at h2,h2,h3⟩
end
def aMD:∀(ks:V_)(v:List Bool)(k:Nat),k<v.length->(aK1 v ks).getD k false=(v.getD k false||decide (k∈ks))|[],v,k,_=>by simp[aK1]|j::ks,v,k,a=>by rw[show aK1 v (j::ks)=aK1 (v.set j true) ks from rfl,aMD ks _ k (by rw[cL];exact a)];by_cases e:j=k;subst e;simp[a];simp[e,Ne.symm e,rH,List.getElem?_set_ne e]
def aOB:∀{l:D_},l.Nodup->∀{i:Nat}(h:i<l.length),l.eraseIdx i=l.filter λy=>!decide (y=l[i])
 |x::l,a,0,_=>by
  have h1:=(BU.1 a).1;simp only[List.eraseIdx_cons_zero,List.getElem_cons_zero,List.filter_cons,decide_true,lI,jJ,if_false];exact(Gm.2 λy b=>by simp;exact λe=>h1 (e ▸ b)).symm
 |x::l,a,i+1,h=>by
  have h1:=BU.1 a;have h2:i<l.length:=x_;have ne:¬x=l[i]:=λe=>h1.1 (e ▸ eQ h2);rw[X7,List.getElem_cons_succ,List.filter_cons,aOB h1.2 h2];simp[ne]
section
variable{p:PGM}{g:GM}{row:D_}{s:B_}{S:List (Int×Int)}
def Tie.step(h:Tie p g){l:LD}{V:D_}(q:l.ok g)(j:l.row=row.map (pl g))(d:∀y∈row,y∈g.I)(n:VB g l.v V){x:Id}(f:x∈row){left:D_}(r:∀y,y∈left↔y∈row/\opn g l y=true/\y≠x):
 VB g (aJb g l (pl g x)).v (if x∈mW p V row then Mb p row x left V else AQ V x):=by
 have s:aGg g l=(mW p V row).map (pl g):=by rw[aGg,j];exact h.good n row [] d s_
 have k:∀y∈mW p V row,y∈g.I:=λy b=>d y (Ac b).1;intro y b;have o:pl g y<l.v.length:=by rw[q.v];exact aJ3 h.gi b
 rw[aJb,aMD _ _ _ o,n y b,aM8,s];rw[show decide (pl g x∈(mW p V row).map (pl g))=decide (x∈mW p V row) from decide_eq_decide.2 (aOS (d x f) k)];by_cases c:x∈mW p V row;rw[decide_eq_true c,if_pos rfl,if_pos c,Mb,CT,decide_eq_true_iff,Rd,Ec,decide_eq_true_iff,decide_eq_true_iff];apply or_congr .rfl;rw[gR,j,aOS b d];refine and_congr_right λi=>?_;rw[h.kill (d x f) b,h.waits j d (d x f) b];have m:=r y;by_cases e:y=x;subst e;have:B7 p row y y=false:=by simp[B7]
 simp[this];rw[show decide (y∈left)=opn g l y from by rw[CT,decide_eq_true_iff,m];exact⟨λa=>a.2.1,λa=>⟨i,a,e⟩⟩];rw[decide_eq_false c,if_neg d_,if_neg c,CT,decide_eq_true_iff,BR,Ec,decide_eq_true_iff,decide_eq_true_iff,cA];exact or_congr .rfl ⟨λe=>aOg b (d x f) e,λe=>by rw[e]⟩
def aOh:∀(m:Nat)(l:LD),(aKm g s m l).row=l.row/\(aKm g s m l).f=l.f|0,_=>⟨rfl,rfl⟩|m+1,l=>by rw[aKm];split;exact⟨rfl,rfl⟩;exact aOh m _
def aQs:∀(m:Nat){l:LD},l.ok g->(aKm g s m l).ok g|0,_,h=>h|m+1,l,h=>by rw[aKm];split;exact h;exact aQs m (aOe h _)
def Tie.opn(h:Tie p g){l:LD}{V:D_}(b:VB g l.v V){y:Id}(a:y∈g.I):opn g l y=(!decide (y∈V)&&(!l.d.getD (pl g y) false&&jM (p.nd y).o)):=by rw[Hud.opn,aE5,b y a,h.op a,aO9,jM,Bool.or_assoc]
def Tie.run (h:Tie p g) (w:∀y∈row,y∈g.I) (N:row.Nodup) (H:∀x∈row,∀y∈row,aCE s x.a<aCE s y.a↔aBo S x.a<aBo S y.a):
 ∀(n:Nat)(l:LD)(V left:D_),l.ok g->l.row=row.map (pl g)->VB g l.v V->(left.filter λx=>!decide (x∈V))=row.filter (Hud.opn g l)->left.length<=n->VB g (aKm g s l.left l).v (uL p row S n V left):=by
 intro n
 induction n with
 | zero=>
  intro l V left z u f A M;obtain rfl:left=[]:=List.length_eq_zero_iff.1 o_;rcases h.next (S:=S) (s:=s) u w H with⟨_,h2⟩|⟨h1,_⟩
  cases e:l.left with
  |zero=>exact f|succ m=>rw[aKm,if_pos h2];exact f
  exact absurd A.symm h1
 | succ n ih=>
  intro l V left z u f A L;rw[uL,A];rcases h.next (S:=S) (s:=s) u w H with⟨h1,h2⟩|⟨h1,h2,h3⟩
  rw[if_pos h1]
  cases e:l.left with
  |zero=>exact f|succ m=>rw[aKm,if_pos h2];exact f
  rw[if_neg h1];dsimp only;generalize(yY p row S (row.filter (Hud.opn g l))).toNat=i at *
  have Q:(row.filter (Hud.opn g l)).Nodup:=N.filter _;rw[rH,jN h2]at h3⊢;have B:=eQ h2;rw[Mi]at h3⊢;obtain⟨G,D⟩:=gR.1 B;have R:(row.filter (Hud.opn g l)).eraseIdx i=(row.filter (Hud.opn g l)).filter λy=>!decide (y=(row.filter (Hud.opn g l))[i]):=aOB Q h2;have j:((row.filter (Hud.opn g l)).eraseIdx i).length<=n:=by rw[Rg h2,<-A];have:=List.length_filter_le (λx=>!decide (x∈V)) left;omega
  rw[R]at j⊢;generalize(row.filter (Hud.opn g l))[i]=x at *
  have k:=w x G;have P:l.d.getD (pl g x) false=false:=by
   rw[h.opn f k]at D
   cases e:l.d.getD (pl g x) false with
   |false=>rfl|true=>rw[e]at D;simp at D
  have O:=aOf l.d (pl g x) (by rw[z.d];exact aJ3 h.gi k) P;have nG:=h.step z u w f G (left:=(row.filter (Hud.opn g l)).filter λy=>!decide (y=x)) λy=>by rw[gR,gR];simp[and_assoc]
  have E:l.left=(aJb g l (pl g x)).left+1:=by unfold LD.left;simp only[aJb];omega
  rw[E,aKm,if_neg (by rw[h3];omega),h3,nI];have C:=aOe z (pl g x);have q:∀o,VB g (aJb g l (pl g x)).v o->(∀y,y∈V->y∈o)->VB g (aKm g s (aJb g l (pl g x)).left (aJb g l (pl g x))).v (uL p row S n o ((row.filter (Hud.opn g l)).filter λy=>!decide (y=x))):=by
   intro o t J;refine ih _ o _ C u t ?_ j;rw[List.filter_filter,List.filter_filter];refine List.filter_congr λy r=>?_;have b:=w y r;rw[h.opn f b,h.opn t b];have F:(aJb g l (pl g x)).d.getD (pl g y) false=(l.d.getD (pl g y) false||decide (y=x)):=by
    have K:pl g y<l.d.length:=by rw[z.d];exact aJ3 h.gi b
    rw[aJb];by_cases e:y=x;subst e;simp[K];have ne:pl g x≠pl g y:=λT=>e (aOg k b T).symm;simp[e,rH,List.getElem?_set_ne ne]
   rw[F];have:=J y;by_cases c1:y∈V<;>by_cases c2:y∈o<;>simp_all;cases decide (y=x)<;>simp
  by_cases c:x∈mW p V row;rw[if_pos c];rw[if_pos c]at nG;exact q _ nG λy r=>by rw[Mb,Rd];exact .inl r
  rw[if_neg c];rw[if_neg c]at nG;exact q _ nG λy r=>BR.2 (.inl r)
end
structure PGM.wf(g:PGM):Prop where
 nd:g.I.Nodup
 back:∀x∈g.I,∀k,qK (g.nd x).W k=true->k<g.at x
def anc(g:PGM)(o:OpM)(y:Id):Bool:=o.Past.any λx=>decide (y=x)||oH g y x
structure Took(g:PGM)(o:OpM):Prop where
 check:vF o=0
 new:C7 o∉g.I
 full:g.nodes.length<200
 card:(gM g.cards o.By).2=true
 sig:((o.By==(gM g.cards o.By).1.Device)&&BW (gM g.cards o.By).1.Sign o.B o.SR o.SS)=true
 kind:o.Kind=1->g.nodes=[]
 there:∀x∈o.Past,x∈g.I
 order:∀x∈o.Past,∀y∈o.Past,oH g y x=false
 late:G0 g o.Past<=o.At
 seq:∀y∈g.I,anc g o y=true->(g.nd y).o.By=o.By->(g.nd y).o.Seq<o.Seq
 pos:0<o.Seq
 pre:1<o.Seq->∃y∈g.I,anc g o y=true/\(g.nd y).o.By=o.By/\(g.nd y).o.Seq=o.Seq-1
structure Same(p q:PGM)(x:Id):Prop where
 l:x∈p.I
 r:x∈q.I
 o:(p.nd x).o=(q.nd x).o
 lv:(p.nd x).lv=(q.nd x).lv
 b:∀y,oH p y x=oH q y x
def Same.symm{p q:PGM}{x:Id}(h:Same p q x):Same q p x:=⟨h.r,h.l,h.o.symm,h.lv.symm,λy=>(h.b y).symm⟩
def Same.trans{p q r:PGM}{x:Id}(h:Same p q x)(k:Same q r x):Same p r x:=⟨h.l,k.r,h.o.trans k.o,h.lv.trans k.lv,λy=>(h.b y).trans (k.b y)⟩
section
variable{p q:PGM}
def aQt{l m:D_}(h:l.Perm m):eO p l=eO p m:=aLO ((mE p l).trans (h.trans (mE p m).symm)) (U4 p l) (U4 p m)
variable(hc:p.cards=q.cards)
include hc
end
section
variable{cs:List CardM}{L:List OpM}
end
section
variable{g:GM}
end
def aKJ(a b e:Int)(S:List (Int×Int)):aBo ((a,b)::S) e=if e=a then b else aBo S e:=by unfold aBo;rw[List.findIdx?_cons];by_cases h:e=a;simp[h];simp only[h,beq_iff_eq,if_false];cases S.findIdx? λx=>e==x.1<;>simp
def aPk(a b d x:Int)(S:List (Int×Int)):nZ ((a,b)::S) d x=if d=a then(d,x)::S else(a,b)::nZ S d x:=by unfold nZ;rw[List.findIdx?_cons];by_cases h:d=a;simp[h];simp only[h,beq_iff_eq,if_false];cases S.findIdx? λx=>d==x.1<;>simp
def aOi(d x e:Int):∀S:List (Int×Int),aBo (nZ S d x) e=if e=d then x else aBo S e
 |[]=>by
  have:nZ [] d x=[(d,x)]:=rfl;rw[this,aKJ]
 | (a,b)::S=>by rw[aPk];split;rename_i h;rw[aKJ,aKJ];split;rfl;rename_i h2;rw[if_neg (by rw[<-h];exact h2)];rename_i h;rw[aKJ,aKJ,aOi d x e S];by_cases h1:e=a;rw[if_pos h1,if_pos h1,if_neg (by rw[h1];exact λh2=>h h2.symm)];rw[if_neg h1,if_neg h1]
def aKP:eO (lQ 6) BP.I=BP.I:=by unfold eO;exact List.mergeSort_of_pairwise kr
def aKQ(g:PGM)(l:D_):D_:=mW g (uL g l (Xu 0 (l.foldl (kV g) []) (KZ g.cards)) l.length (zH l) (l.filter λx=>jM (g.nd x).o)) l
def aGr{g:PGM}{l:D_}(h:eO g l=l):kW g l=aKQ g l:=by unfold kW sU aBt BQ aKQ;simp only[h]
def aHh:kW (lQ 6) BP.I=Za.I:=(aGr aKP).trans g_
def aKR:Gk (lQ 6) BP.I (zH BP.I) lI6=15:=by unfold Gk;have h:mW (lQ 6) (sU (lQ 6) (eO (lQ 6) BP.I) (zH BP.I)) (eO (lQ 6) BP.I)=Za.I:=aHh;rw[h];decide +kernel
def aIS(e:AK G):LivesP G:=by
 have c:=lR6.ggood rY JP;have hI:(AM bQ BP.L).I=BP.I:=by rw[Zb];rfl
 have a:∀x∈BP.I,x∈(AM bQ BP.L).I:=λx f=>by rw[hI];exact f
 have b:BP.I.Nodup:=kr;have d:GAt (TG 0 (AM bQ BP.L)) (0,1,2) (AM bQ BP.L):=⟨rfl,rfl,rfl,d_,d_,d_⟩
 have h1:=Vj e d c a b;have h2:=aHg e d c a b lI6;have h:kW (AM bQ BP.L) BP.I=Za.I:=by rw[Zb];exact aHh
 have g:Gk (AM bQ BP.L) BP.I (zH BP.I) lI6=15:=by rw[Zb];exact aKR
 rw[h]at h1;rw[g]at h2;exact⟨h1,h2,by rw[Zb];kernel_rfl⟩
def Reach.nd{cs:List CardM}(j:cardsOk cs){g:GM}(h:Reach cs g):g.I.Nodup:=by
 induction h with
 |new=>exact Mm| @add g o f i d ih=>
  by_cases h:(dV g o).1=0;rotate_left;grind[addM];have a:=Ff h;rw[yE a h,vQ];refine⟨ih,s_,?_⟩;intro x c y b e;rw[cA.1 b]at e;exact a.twice ((Cz g.I _).2 (e ▸ c))
def aPl{l:D_}(k:l.Nodup)(a b:Int):1<aIX l a b↔∃y∈l,∃z∈l,y≠z/\(y.a=a/\y.b=b)/\z.a=a/\z.b=b:=by
 have f:∀y,y∈l.filter (λx=>x.a==a&&x.b==b)↔y∈l/\y.a=a/\y.b=b:=λy=>s_;have i:(l.filter (λx=>x.a==a&&x.b==b)).Nodup:=k.filter _;rw[aIX,List.countP_eq_length_filter];generalize l.filter (λx=>x.a==a&&x.b==b)=m at *
 match m with
 |[]=>exact⟨λh=>by simp at h,λ⟨y,g,z,j,ne,h1,h2⟩=>by have:=(f y).2 ⟨g,h1⟩;simp at this⟩| [c]=>exact⟨λh=>by simp at h,λ⟨y,g,z,j,ne,h1,h2⟩=>by
   have o:=cA.1 ((f y).2 ⟨g,h1⟩);have n:=cA.1 ((f z).2 ⟨j,h2⟩)
   exact absurd (o.trans n.symm) ne⟩
 |c::d::m=>
  refine⟨λ_=>?_,λ_=>s_⟩;have h1:=(f c).1 s_;have h2:=(f d).1 s_;exact⟨c,h1.1,d,h2.1,λe=>by simp[e]at i,h1.2,h2.2⟩
def aLZ{l:D_}{a n:Int}:∀(r:D_)(out:Int),0<=out->(∀y∈r,0<y.b)->0<=r.foldl (aLT l a) out/\((0<r.foldl (aLT l a) out/\r.foldl (aLT l a) out<=n)↔(0<out/\out<=n)\/∃y∈r,(y.a=a/\1<aIX l a y.b)/\y.b<=n)|[],out,h,_=>by simpa using h| y::r,out,h,e=>by have g:=e y (.head _);have d:∀z∈r,0<z.b:=λz f=>e z (.tail _ f);rw[CW,aLT];by_cases c:y.a=a/\1<aIX l a y.b;by_cases c2:out=0\/y.b<out;rw[if_pos (by simp[c.1,c.2];exact c2)];obtain⟨h1,h2⟩:=aLZ (l:=l) (a:=a) (n:=n) r y.b o_ d;refine⟨h1,h2.trans ?_⟩;simp only[cS,exists_eq_or_imp,c,true_and,and_true];grind;rw[if_neg (by simp[c.1,c.2];omega)];obtain⟨h1,h2⟩:=aLZ (l:=l) (a:=a) (n:=n) r out h d;refine⟨h1,h2.trans ?_⟩;simp only[cS,exists_eq_or_imp,c,true_and,and_true];grind;rw[if_neg (by simp;intro h1 h2;exact absurd ⟨h1,h2⟩ c)];obtain⟨h1,h2⟩:=aLZ (l:=l) (a:=a) (n:=n) r out h d;refine⟨h1,h2.trans ?_⟩;simp only[cS,exists_eq_or_imp,c,false_and,false_or]
def aQY{l:D_}(g:l.Nodup)(k:∀y∈l,0<y.b)(x:Id):aGf l x=B8 l x:=by have h:=(aLZ (l:=l) (a:=x.a) (n:=x.b) l 0 o_ k).2;rw[CT,aGf,zJ,decide_eq_true_iff,decide_eq_true_iff,aM7,h,B8];simp only[CX,zJ,EX,decide_eq_false_iff_not,decide_eq_true_eq,beq_iff_eq];constructor;rintro(h|⟨y,f,⟨h1,h2⟩,h3⟩);omega;obtain⟨c,o,d,m,ne,e,i⟩:=(aPl g _ _).1 h2;exact⟨c,o,d,m,ne,e.1,i.1,e.2.trans i.2.symm,o_⟩;rintro⟨y,f,z,j,ne,h1,h2,h3,e⟩;exact .inr ⟨y,f,⟨h1,(aPl g _ _).2 ⟨y,f,z,j,ne,⟨h1,rfl⟩,h2,h3.symm⟩⟩,e⟩
def aMa(s:B_)(d:Int):aCE s d=s.findIdx (λx=>x==d):=by rw[aCE,List.findIdx?_eq_guard_findIdx_lt];have:=List.findIdx_le_length (xs:=s) (p:=λx=>x==d);rcases eD (s.findIdx λx=>x==d) s.length with h|h;simp[Option.guard,h];simp[Option.guard,(o_:¬s.findIdx (λx=>x==d)<s.length)];omega
def aPm(e:Int):∀(cs:List CardM)(S:List (Int×Int)),aBo (cs.foldl (λS c=>nZ S c.Device 12) S) e=if e∈cs.map (·.Device) then 12 else aBo S e|[],S=>by simp|c::cs,S=>by rw[CW,aPm e cs,aOi];by_cases h1:e∈cs.map (·.Device)<;>by_cases h2:e=c.Device<;>simp_all
def aPn(e:Int):∀(q:B_)(i:Nat)(S:List (Int×Int)),q.Nodup->aBo (Xu i q S) e=if e∈q then((i+q.findIdx (λx=>x==e):Nat):Int) else aBo S e|[],i,S,_=>by simp[Xu]| d::q,i,S,b=>by obtain⟨h1,h2⟩:=BU.1 b;rw[Xu,aPn e q (i+1) _ h2,aOi,List.findIdx_cons];by_cases h3:e=d;subst h3;simp[h1];have:¬d=e:=λx=>h3 x.symm;by_cases a:e∈q;simp[h3,a,show(d==e)=false by simpa using this,Int.add_assoc,Int.add_comm 1];simp[h3,a]
def aPO{o:OpM}{d:Int}(h:jB o=0)(a:byO o=some d):1<=d/\d<=12:=by grind (splits:=30) [jB,fP,oI,byO]
def aMH{o:OpM}(h:jB o=0):0<o.Seq:=by grind[jB,fP,oI]
def aQZ{cs:List CardM}{d:Int}(h:(gM cs d).2=true):d∈cs.map (·.Device):=by refine dF.2 ⟨(gM cs d).1,?_,aB5 h⟩;unfold gM at h⊢;split at h;rename_i c e;exact Mg e;simp at h
def Reach.dev{cs:List CardM}(e:cardsOk cs){g:GM}(h:Reach cs g):∀o∈g.L,o.By∈cs.map (·.Device):=by
 induction h with
 |new=>simp| @add g o c f d ih=>
  by_cases h:(dV g o).1=0;have a:=Ff h;rw[yE a h];intro x b;rcases cG.1 b with b|b;exact ih x b;rw[cA.1 b,<-(c.good e).cards];exact aQZ a.card;grind[addM]
def aQu {p:PGM}:∀(l:D_)(out:B_),out.Nodup->(∀d∈out,1<=d/\d<=12)->(∀x∈l,∀d,byO (p.nd x).o=some d->1<=d/\d<=12)->(l.foldl (kV p) out).Nodup/\∀d∈l.foldl (kV p) out,1<=d/\d<=12|[],_,h,h2,_=>⟨h,h2⟩| x::l,out,h,h2,h3=>by rw[CW];have i:=h3 x (.head _);refine aQu l _ ?_ ?_ λy g=>h3 y (.tail _ g);unfold kV;split;split;exact h;rename_i j;exact vQ.2 ⟨h,s_,λa m b k=>by rw[cA.1 k];exact λe=>j (e ▸ m)⟩;exact h;unfold kV;split;rename_i d e;split;exact h2;intro c f;rcases cG.1 f with f|f;exact h2 c f;rw[cA.1 f];exact i d e;exact h2
def aTm{l:B_}(h:l.Nodup)(h2:∀d∈l,1<=d/\d<=12):l.length<=12:=by
 have:=List.Nodup.length_le_of_subset (l₂:=[1,2,3,4,5,6,7,8,9,10,11,12]) h λd a=>by have:=h2 d a;simp only[cS,pP,or_false];omega
 simpa using this
section
variable{cs:List CardM}{g:GM}
def Reach.tie(c:cardsOk cs)(r:CardsG cs)(q:uE cs=cs)(h:Reach cs g):Tie (AM cs g.L) g:=by
 have b:=h.good c;have m:∀x∈g.I,((AM cs g.L).nd x).o.By=x.a:=by
  intro x e;have d:=e;rw[<-b.sim.i]at e;obtain⟨j,l,p,_⟩:=dG e;have k:j<g.L.length:=by rw[<-b.wf.i,<-b.sim.i];exact p
  rw[(aNR b.sim l k).1];have f:=aIE d;unfold aW qX at f;rw[<-b.sim.i,l]at f
  conv=>rhs;rw[<-f]
  rw[b.sim.i,(h.row c).ids,rH,rH];simp only[nI,gE];rw[jN k];rfl
 exact⟨b.sim,b.n,b.wf.i,h.nd c,h.rem,by rw[RL cs _ _ rfl,q,b.cards],h.ggood c r,b.wf.inn,m⟩
def aJ6(g:GM)(ol ss:D_):LD:=⟨ol.map (pl g),aMF g (jI (ss.filter (aGf ss))),aMF g (jI (ss.filter (aGf ss))),List.replicate g.L.length false⟩
def aM0:∀(ss:D_)(b:List Bool),ss.foldl (aOR g) b=aK1 b (ss.map (pl g))|[],_=>rfl|x::ss,b=>by rw[CW,aM0 ss];rfl
def aPP{ol ss:D_}(e:g.I.length=g.L.length)(b:∀x∈ol,x∈g.I)(c:ol.length<=1000):(aJ6 g ol ss).ok g:=by refine⟨?_,by rw[aJ6,aP];exact c,?_,QE⟩;intro k d;obtain⟨x,a,rfl⟩:=dF.1 d;exact aJ3 e (b x a);rw[aJ6,aMF,aM0,aKI,QE]
def aPE{ol ss:D_}(i:g.I.length=g.L.length)(h:∀x∈ss,x∈g.I)(f:ss.Nodup)(j:∀x∈ss,0<x.b):VB g (aJ6 g ol ss).v (zH ss):=by
 intro x c;have a:=aJ3 i c;rw[aJ6,aMF,aM0,aMD _ _ _ (by rw[QE];exact a)];have e:(List.replicate g.L.length false).getD (pl g x) false=false:=by rw[rH,List.getElem?_replicate];split<;>rfl
 rw[e,EH];apply decide_eq_decide.2;rw[aOS c λy d=>h y (gR.1 ((dQ _).mem_iff.1 d)).1,(dQ _).mem_iff,zH,gR,gR,aQY f j]
variable(hc:cardsOk cs)(hG:CardsG cs)(hs:uE cs=cs)(h:Reach cs g)
include hc hG hs h
def aR0 {ss:D_} (m:∀x∈ss,x∈g.I) (r:ss.Nodup):VB g (aKm g (BQ (AM cs g.L) ss) (aJ6 g (eO (AM cs g.L) ss) ss).left (aJ6 g (eO (AM cs g.L) ss) ss)).v (sU (AM cs g.L) (eO (AM cs g.L) ss) (zH ss)):=by
 have t:=h.tie hc hG hs;generalize G:AM cs g.L=p at *
 have f:∀x∈eO p ss,x∈g.I:=λx c=>m x ((mE p ss).mem_iff.1 c);have k:(eO p ss).Nodup:=(mE p ss).nodup_iff.2 r;have cE:∀x∈g.I,(p.nd x).o∈g.L:=λx c=>by rw[<-t.op c,rH,jN (aJ3 t.gi c)];exact eQ _
 have z:∀x∈ss,0<x.b:=λx c=>by have c:=m x c;rw[(h.row hc).ids]at c;obtain⟨o,C,rfl⟩:=dF.1 c;exact aMH (h.checked o C)
 have i:=aQu (p:=p) (eO p ss) [] Mm s_ λx c d e=>aPO (h.checked _ (cE x (f x c))) e;have u:=aTm i.1 i.2;have D:BQ p (eO p ss)=BQ p ss:=by rw[BQ,BQ,aQt (mE p ss)]
 refine t.run f k (S:=aBt p (eO p ss)) ?_ _ _ _ _ (aPP t.gi f (by have:=k.length_le_of_subset f;have:=t.gi;have:=t.n;omega)) rfl (aPE t.gi m r z) ?_ ?_;intro x c y B;have j:∀x∈eO p ss,aBo (aBt p (eO p ss)) x.a=if x.a∈BQ p ss then((aCE (BQ p ss) x.a:Nat):Int) else 12:=by
  intro x c;have s:x.a∈p.cards.map (·.Device):=by rw[t.cd,(h.good hc).cards,<-t.by' x (f x c)];exact h.dev hc _ (cE x (f x c))
  rw[aBt,D,aPn _ _ _ _ (show(BQ p ss).Nodup from i.1),aMa,pQ,KZ,aPm,if_pos s]
 rw[j x c,j y B,aMa,aMa];have w:∀d:Int,d∈BQ p ss↔(BQ p ss).findIdx (λx=>x==d)<(BQ p ss).length:=λd=>by rw[List.findIdx_lt_length];simp
 have l:∀d:Int,(BQ p ss).findIdx (λx=>x==d)<=(BQ p ss).length:=λd=>List.findIdx_le_length;have A:(BQ p ss).length<=12:=u;have F:=w x.a;have E:=w y.a;have J:=l x.a;have H:=l y.a;simp only[F,E];split<;>split<;>omega;rw[List.filter_filter];refine List.filter_congr λx c=>?_;have q:=f x c;rw[t.opn (aPE t.gi m r z) q];have e:(aJ6 g (eO p ss) ss).d.getD (pl g x) false=false:=by rw[aJ6,rH,List.getElem?_replicate];split<;>rfl
 rw[e];rfl;exact List.length_filter_le _ _
def aPF{ss:D_}(e:∀x∈ss,x∈g.I)(n:ss.Nodup):aMn g (aKm g (BQ (AM cs g.L) ss) (aJ6 g (eO (AM cs g.L) ss) ss).left (aJ6 g (eO (AM cs g.L) ss) ss))=kW (AM cs g.L) ss/\∀x,aRi g (aKm g (BQ (AM cs g.L) ss) (aJ6 g (eO (AM cs g.L) ss) ss).left (aJ6 g (eO (AM cs g.L) ss) ss)) ss x=Gk (AM cs g.L) ss (zH ss) x:=by
 have t:=h.tie hc hG hs;have B:=aR0 hc hG hs h e n
 have A:=aPE (ol:=eO (AM cs g.L) ss) t.gi e n (λx b=>by
  have b:=e x b;rw[(h.row hc).ids]at b;obtain⟨o,w,rfl⟩:=dF.1 b
  exact aMH (h.checked o w))
 generalize D:AM cs g.L=p at *
 have d:∀x∈eO p ss,x∈g.I:=λx b=>e x ((mE p ss).mem_iff.1 b);obtain⟨u,C⟩:=aOh (g:=g) (s:=BQ p ss) (aJ6 g (eO p ss) ss).left (aJ6 g (eO p ss) ss);generalize aKm g (BQ p ss) (aJ6 g (eO p ss) ss).left (aJ6 g (eO p ss) ss)=l at *
 have j:aGg g l=(kW p ss).map (pl g):=by rw[aGg,u];exact t.good B (eO p ss) [] d s_
 have c:∀y∈kW p ss,y∈g.I:=λy k=>d y (Ac k).1;constructor;rw[aMn,j,rI];refine(aMb λy k=>?_).trans (List.map_id _);exact aIE (c y k);intro x;unfold aRi Gk;rw[show mW p (sU p (eO p ss) (zH ss)) (eO p ss)=kW p ss from rfl];by_cases b:x∈ss;have a:=e x b;have m:¬(x∉p.I\/x∉ss):=by rw[t.s.i];simp[b,a]
 rw[if_pos b,if_neg m,j,C,show(aJ6 g (eO p ss) ss).f=(aJ6 g (eO p ss) ss).v from rfl];have h1:=A x a;rw[h1];simp only[decide_eq_true_eq];rw[aOT (q:=λy=>lA p y x) _ λz r=>t.kill (c z r) a,t.did a _ c,t.op a];simp only[aOS a c];rw[if_neg b,if_pos (.inr b)]
end
end Hud
