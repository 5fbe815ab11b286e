import Derived.Test.YthlndebkfkanbaaGreatDoorLib26
set_option linter.all false
namespace Hud
open Go
section
def prF:List (Nat×List AV×AV)→Nat→List AV→aQ→Option (AV×aQ)
 | [],_,_,_=>none
 | p::r,f,args,T=>match T with
  | []=>if Nat.beq p.1 f&&NT p.2.1 args then some (p.2.2,[]) else prF r f args []
  | _=>none
def aFe (P:Program) (G:Nat→Option (List AV)):List (Nat×List AV×AV)→Prop
 | []=>True
 | p::r=>aC P G p.1 p.2.1 [] (λr' T'=>r'=p.2.2∧T'=[])∧aFe P G r
def aBd {P:Program} {G:Nat→Option (List AV)}:∀ {l:List (Nat×List AV×AV)},aFe P G l→∀ f args T r T',prF l f args T=some (r,T')→aC P G f args T λr' T''=>r'=r∧T''=T'
 | [],_,f,args,T,r,T',e=>by simp [prF] at e
 | p::l,h,f,args,T,r,T',e=>by
  simp only [prF] at e;split at e
  ·split at e
   ·rename_i hb;simp only [eM] at hb;simp only [Option.some.injEq,Prod.mk.injEq] at e;obtain ⟨rfl,rfl⟩:=e;rw [←KP hb.1,←CI _ _ hb.2];exact h.1
   ·exact aBd h.2 f args _ r T' e
  ·simp at e
mutual
def kD:AV→AV→Bool
 | .v x,.v y=>Dz x y
 | .v (.slice none 0 0),.ls _ []=>true
 | .ls k l,.ls k' m=>Nat.beq k k'&&oR l m
 | .ag l,.ag m=>kE l m
 | .tup l,.tup m=>kE l m
 | _,_=>false
def kE:List AV→List AV→Bool
 | [],[]=>true
 | x::l,y::m=>kD x y&&kE l m
 | _,_=>false
def oR:List (List AV)→List (List AV)→Bool
 | [],[]=>true
 | x::l,y::m=>kE x y&&oR l m
 | _,_=>false
end
def OX:∀ {l m:List (List AV)},oR l m=true→l.length=m.length
 | [],[],_=>rfl
 | x::l,y::m,h=>by
  simp only [oR,eM] at h;simp only [kS,OX h.2]
 | [],_::_,h=>by simp [oR] at h
 | _::_,[],h=>by simp [oR] at h
def OY:∀ {l m:List AV},kE l m=true→l.length=m.length
 | [],[],_=>rfl
 | x::l,y::m,h=>by
  simp only [kE,eM] at h;simp only [kS,OY h.2]
 | [],_::_,h=>by simp [kE] at h
 | _::_,[],h=>by simp [kE] at h
def Sa {x y:AV} (h:kD x y=true) (hc:bB x=true):bB y=true:=by
 cases x<;>cases y<;>simp only [kD,jZ] at h
 ·rw [←J9 h];exact hc
 ·rfl
 ·rfl
 ·simp [bB] at hc
 ·simp [bB] at hc
mutual
def KB {h:GH}:∀ {x y:AV} {u:Value},kD x y=true→mB h x u→mB h y u
 | .v x,.v y,u,hs,e=>by
  simp only [kD] at hs;rw [←J9 hs];exact e
 | .v x,.ls k es,u,hs,e=>by
  cases es with
  | nil =>
   unfold kD at hs;split at hs<;>simp_all;simp only [mB] at e ⊢;subst e;exact ⟨none,0,rfl,fW _,xC _,.inl trivial⟩
  | cons a b=>simp [kD] at hs
 | .ls k l,.ls k' m,u,hs,e=>by
  simp only [kD,eM,Cl] at hs;obtain ⟨rfl,hm⟩:=hs;have hl:=OX hm;simp only [mB] at e ⊢;obtain ⟨A,c,h1,h2,h3,h4⟩:=e;refine ⟨A,c,hl ▸ h1,hl ▸ h2,h3,?_⟩;rcases h4 with h4 | ⟨b,o,h5,h6⟩
  ·left;rw [h4] at hl;exact CR hl.symm
  ·exact .inr ⟨b,o,h5,WP hm h6⟩
 | .ag l,.ag m,u,hs,e=>by
  simp only [kD] at hs;simp only [mB] at e ⊢;obtain ⟨us,h1,h2⟩:=e;exact ⟨us,h1,Sb hs h2⟩
 | .tup l,.tup m,u,hs,e=>by simp [mB] at e
def WP {h:GH} {b k:Nat}:∀ {l m:List (List AV)} {o:Nat},oR l m=true→iY h b k l o→iY h b k m o
 | [],[],o,_,_=>by simp [iY]
 | x::l,y::m,o,hs,e=>by
  simp only [oR,eM] at hs;simp only [iY] at e ⊢;exact ⟨(OY hs.1) ▸ e.1,WQ hs.1 e.2.1,WP hs.2 e.2.2⟩
def WQ {h:GH} {b:Nat}:∀ {l m:List AV} {o:Nat},kE l m=true→lA h b l o→lA h b m o
 | [],[],o,_,_=>by simp [lA]
 | x::l,y::m,o,hs,e=>by
  simp only [kE,eM] at hs;simp only [lA] at e ⊢;obtain ⟨⟨u,e1,e2,e3⟩,e4⟩:=e;exact ⟨⟨u,Sa hs.1 e1,e2,KB hs.1 e3⟩,WQ hs.2 e4⟩
def Sb {h:GH}:∀ {l m:List AV} {us:List Value},kE l m=true→cB h l us→cB h m us
 | [],[],us,_,e=>e
 | x::l,y::m,us,hs,e=>by
  simp only [kE,eM] at hs;simp only [cB] at e ⊢;obtain ⟨u,us',e1,e2,e3⟩:=e;exact ⟨u,us',e1,KB hs.1 e2,Sb hs.2 e3⟩
end
mutual
def QK {h:GH} {φ:Nat→Value} {n:Nat}:∀ {x y:AV} {u:Value},kD x y=true→Rp h φ n x u→Rp h φ n y u
 | .v x,.v y,u,hs,e=>by
  simp only [kD] at hs;rw [←J9 hs];exact e
 | .v x,.ls k es,u,hs,e=>by
  simp only [Rp] at e ⊢;exact KB (x:=.v x) hs (by simpa only [mB] using e)
 | .ls k l,.ls k' m,u,hs,e=>by
  simp only [Rp] at e ⊢;exact KB hs e
 | .ag l,.ag m,u,hs,e=>by
  simp only [kD] at hs;simp only [Rp] at e ⊢;obtain ⟨us,h1,h2⟩:=e;exact ⟨us,h1,KD hs h2⟩
 | .tup l,.tup m,u,hs,e=>by
  simp only [kD] at hs;simp only [Rp] at e ⊢;obtain ⟨us,h1,h2⟩:=e;exact ⟨us,h1,KD hs h2⟩
def KD {h:GH} {φ:Nat→Value} {n:Nat}:∀ {l m:List AV} {us:List Value},kE l m=true→bW h φ n l us→bW h φ n m us
 | [],[],us,_,e=>e
 | x::l,y::m,us,hs,e=>by
  simp only [kE,eM] at hs;simp only [bW] at e ⊢;obtain ⟨u,us',e1,e2,e3⟩:=e;exact ⟨u,us',e1,QK hs.1 e2,KD hs.2 e3⟩
end
def aBe (n:Nat):List Nat:=(List.range n).reverse++List.range n
def aD1:Option (AV×aQ)→Option AV
 | some (r,T')=>match (yR [] (Am ⟨0,[(0,r)],T'⟩ (aBe T'.length))).T with
  | []=>some (aU (yR [] (Am ⟨0,[(0,r)],T'⟩ (aBe T'.length))).s 0)
  | _=>none
 | none=>none
def aFf (G:Nat→Option (List AV)) (tb:EvT) (n f:Nat) (args:List AV) (r:AV):Bool :=
 match aD1 (QH G tb n f args []) with
 | some r0=>kD r0 r
 | none=>false
def aFg {P:Program} {G:Nat→Option (List AV)} {tb:EvT} (ht:tb.Ok P G) {n f:Nat} {args:List AV} {r:AV} (h:aFf G tb n f args r=true):aC P G f args [] λr' T'=>r'=r∧T'=[]:=by
 unfold aFf at h;split at h
 ·rename_i r0 he
  cases hev:QH G tb n f args [] with
  | none=>rw [hev] at he;simp [aD1] at he
  | some p =>
   obtain ⟨r1,T1⟩:=p;rw [hev] at he;simp only [aD1] at he;split at he
   ·rename_i hT;injection he with he;have hc:aC P G f args [] λr' T'=>r'=r0∧T'=[]:=by
     refine (aFd ht hev).fin (aBe T1.length) ?_;rintro r' T' ⟨rfl,rfl⟩;exact ⟨he,hT⟩
    intro hh φ w vals hG hI hA;have up:∀ {v w'},Ce hh φ [] w (λr' T'=>r'=r0∧T'=[]) v w'→Ce hh φ [] w (λr' T'=>r'=r∧T'=[]) v w':=by
     rintro v w' ⟨r',T',h',φ',⟨rfl,rfl⟩,e2,e3,e4⟩;exact ⟨r,[],h',φ',⟨rfl,rfl⟩,e2,e3,QK h e4⟩
    rcases hc hh φ w vals hG hI hA with ⟨a,b⟩ | ⟨v,w',a,b⟩
    ·exact .inl ⟨a,b.mono λe w' ⟨v,e1,e2⟩=>⟨v,e1,up e2⟩⟩
    ·exact .inr ⟨v,w',a,up b⟩
   ·simp at he
 ·simp at h
def rB {P:Program} {G:Nat→Option (List AV)} {tb:EvT} (ht:tb.Ok P G) {n f:Nat} {args:List AV} {r0:AV} {T0:aQ} {r:AV} (h:QH G tb n f args []=some (r0,T0))
  (h2:(match aD1 (some (r0,T0)) with | some r1=>kD r1 r | none=>false)=true):aC P G f args [] λr' T'=>r'=r∧T'=[] :=
 aFg ht (by unfold aFf;rw [h];exact h2)
end
section
section
variable {P:Program} {G:Nat→Option (List AV)} {f:Nat} {args:List AV} {T:aQ} {p q:AV→aQ→Prop}
def aC.dsub (hc:aC P G f args T p) (hk:∀ r T',p r T'→∃ r',kD r r'=true∧q r' T'):aC P G f args T q:=by
 have key:∀ {h:GH} {φ:Nat→Value} {w w':World} {v:Value},Ce h φ T w p v w'→Ce h φ T w q v w':=by
  rintro h φ w w' v ⟨r,T',h',φ',e1,e2,e3,e4⟩;obtain ⟨r',hd,hq⟩:=hk r T' e1;exact ⟨r',T',h',φ',hq,e2,e3,QK hd e4⟩
 intro h φ w vals hG hI hA;rcases hc h φ w vals hG hI hA with ⟨a,b⟩ | ⟨v,w',a,b⟩
 ·exact .inl ⟨a,b.mono λe w' ⟨v,e1,e2⟩=>⟨v,e1,key e2⟩⟩
 ·exact .inr ⟨v,w',a,key b⟩
end
def aC.asub {P:Program} {G:Nat→Option (List AV)} {f:Nat} {args args':List AV} {T:aQ} {p:AV→aQ→Prop} (hc:aC P G f args' T p) (hd:kE args args'=true):aC P G f args T p :=
 λh φ w vals hG hI hA=>hc h φ w vals hG hI (KD hd hA)
def cG (z:Int):tK (IntKind.i64.wrap z):=by
 unfold tK;simp only [IntKind.wrap,IntKind.bits,IntKind.signed];simp;omega
def aDX (z:Int):∃ k:Nat,k<18446744073709551616∧IntKind.u64.wrap z=(k:Int):=by
 refine ⟨(IntKind.u64.wrap z).toNat,?_,?_⟩<;>simp only [IntKind.wrap,IntKind.bits,IntKind.signed]<;>simp<;>omega
def aJg (z:Int):∃ k:Nat,k<256∧IntKind.u8.wrap z=(k:Int):=by
 refine ⟨(IntKind.u8.wrap z).toNat,?_,?_⟩<;>simp only [IntKind.wrap,IntKind.bits,IntKind.signed]<;>simp<;>omega
def IN (by0:Int):List AV:=[iv by0,iv 0,iv 0,iv 0,.v (.slice none 0 0),iv 0,iv 0,iv 0,iv 0,.v (.slice none 0 0),iv 0,iv 0,.v (.int .u64 0),iv 0,.v (.slice none 0 0),.v (.slice none 0 0),iv 0,iv 0,.v (.int .u64 0),.v (.slice none 0 0),iv 0,iv 0,.v (.slice none 0 0),.v (.int .u64 0),.v (.slice none 0 0),.v (.int .u64 0),.v (.int .u64 0)]
@[go_sem] def aID (b:Int):iI (IN b)=[]:=cH rfl rfl
@[go_sem] def aJh (L:List Nat) (b:Int):Al L (IN b)=IN b:=cH rfl rfl
@[go_sem] def aJi (L:List Nat) (n:Nat) (b:Int):D3 L n (IN b)=IN b:=cH rfl rfl
@[go_sem] def aIE (b:Int):(IN b).length=27:=cH rfl rfl
@[go_sem] def aIF (b:Int):(IN b).drop 27=[]:=cH rfl rfl
@[go_sem] def aJj (i k:Nat) (es:List (List AV)) (b:Int):Ib i k es (IN b)=IN b:=cH rfl rfl
@[go_sem] def OpM.d27 (o:OpM):o.A.drop 27=[]:=cH rfl rfl
@[go_sem] def OpM.up1 (o:OpM) (x:Int):o.A.take 1++[iv x]++o.A.drop 2=OpM.A { o with Seq:=x }:=cH rfl rfl
@[go_sem] def OpM.up3 (o:OpM) (x:Int):o.A.take 3++[iv x]++o.A.drop 4=OpM.A { o with At:=x }:=cH rfl rfl
@[go_sem] def OpM.up4 (o:OpM) (l:List Id):o.A.take 4++[ids l]++o.A.drop 5=OpM.A { o with Past:=l }:=cH rfl rfl
def aBf (by0:Int) (cs:List AV):Prop:=∃ o:OpM,o.ok∧o.By=by0∧kE cs o.A=true
def kM (by0 k d ol rl:Int) (pa:List NodeM) (ep of:Id) (bo:List Nat):OpM:=⟨by0,0,k,0,[],d,ol,0,rl,pa,ep,0,bo,[],of,[],0,0,[],0,[],0,0⟩
def QL:(⟨0,0,0⟩:Id).ok:=⟨⟨by decide,by decide⟩,⟨by decide,by decide⟩,by decide,by decide⟩
def Iy {by0 k d ol rl:Int} {pa:List NodeM} {ep of:Id} {bo:List Nat} (h1:tK by0) (h2:tK k) (h3:tK d) (h4:tK ol) (h5:tK rl) (h6:pa.length≤10∧∀ x∈pa,x.ok) (h7:ep.ok) (h8:of.ok) (h9:bo.length≤1000∧wC bo):(kM by0 k d ol rl pa ep of bo).ok:=by
 have z:tK 0:=⟨by decide,by decide⟩
 refine ⟨?_,?_,h7,h8,⟨by simp [kM],by simp [kM]⟩,h6,h9,⟨by simp [kM],by simp [kM]⟩,⟨by simp [kM],by simp [kM]⟩,⟨by simp [kM],by simp [kM]⟩,⟨by simp [kM],by simp [kM]⟩⟩
 ·intro n hn;simp only [kM,gK,pQ,or_false] at hn;rcases hn with rfl | rfl | rfl | rfl | rfl | rfl | rfl | rfl | rfl | rfl | rfl<;>assumption
 ·intro n hn;simp only [kM,gK,pQ,or_false] at hn;rcases hn with rfl | rfl | rfl<;>decide
def vH {by0 k d ol rl:Int} {pa:List NodeM} {ep of:Id} {bo:List Nat} {cs:List AV} (h:(kM by0 k d ol rl pa ep of bo).ok) (hd:kE cs (kM by0 k d ol rl pa ep of bo).A=true):aBf by0 cs:=⟨_,h,rfl,hd⟩
def EZ {k:Nat} (h:k<18446744073709551616):([⟨k,[]⟩]:List NodeM).length≤10∧∀ x∈([⟨k,[]⟩]:List NodeM),x.ok:=by
 refine ⟨by simp,?_⟩;intro x hx;rw [gZ.1 hx];exact ⟨h,by simp,by simp⟩
def KE:([]:List NodeM).length≤10∧∀ x∈([]:List NodeM),x.ok:=⟨by simp,by simp⟩
def AD:([]:List Nat).length≤1000∧wC []:=⟨by simp,λx hx=>by simp at hx⟩
def WR {k:Nat} (h:k<256):[k].length≤1000∧wC [k]:=⟨by simp,λx hx=>by rw [gZ.1 hx];exact h⟩
section
variable {G:Nat→Option (List AV)}
set_option maxHeartbeats 1000000
def YD (by0:Int) (hb:tK by0) (n:Nat) (hn:n<1000000):aC PQ G sH [.ag (IN by0),iv n] [] λr T=>(∃ cs,r=.ag cs∧aBf by0 cs)∧T=[]:=by
 have t3:((n:Nat):Int).tmod 3=((n%3:Nat):Int):=rfl;have t8:((n:Nat):Int).tmod 8=((n%8:Nat):Int):=rfl;have z0:tK 0:=⟨by decide,by decide⟩
 have h8:n%8<8:=Aj _ (by decide);obtain ⟨k1,hk1,e1⟩:=aDX ((IntKind.i64.wrap ((n:Int).tdiv 3)).tmod 3);obtain ⟨k2,hk2,e2⟩:=aDX (IntKind.i64.wrap (1+(IntKind.i64.wrap ((n:Int).tdiv 8)).tmod 90));obtain ⟨k3,hk3,e3⟩:=aJg (IntKind.i64.wrap ((n:Int).tdiv 8));have hc:n%8=0∨n%8=1∨n%8=2∨n%8=3∨n%8=4∨n%8=5∨n%8=6∨n%8=7:=by omega
 have hnm:(⟨IntKind.i64.wrap (1+((n%3:Nat):Int)),1,(k1:Int)⟩:Id).ok:=⟨cG _,⟨by show (-9223372036854775808:Int)≤1;decide,by show (1:Int)≤9223372036854775807;decide⟩,by show (0:Int)≤(k1:Int);omega,by show (k1:Int)<18446744073709551616;omega⟩
 rcases hc with hc | hc | hc | hc | hc | hc | hc | hc
 ·refine aF gU (by decide) ?_;simp only [go_sem,t3,t8,hc,e1,e3,IN];refine aB (aA _) rfl (sT 8) rfl ?_;simp only [go_sem,show pF 8=false from rfl,e2];refine ⟨_,rfl,vH (by0:=by0) (k:=8) (d:=0) (ol:=0) (rl:=0) (pa:=[]) (ep:=⟨0,0,0⟩) (of:=⟨IntKind.i64.wrap (1+((n%3:Nat):Int)),1,(k1:Int)⟩) (bo:=[]) (Iy hb ⟨by decide,by decide⟩ z0 z0 z0 KE QL hnm AD) ?_⟩;simp only [kE,kD,oR,Dz,OpM.A,kM,NodeM.A,ids,C0,AM,bl,ul,eQ,cN,beq_self_eq_true,uO,jG,GC,FR];rfl
 ·refine aF gU (by decide) ?_;simp only [go_sem,t3,t8,hc,e1,e3,IN];refine aB (aA _) rfl (sT 2) rfl ?_;simp only [go_sem,show pF 2=true from rfl,e2];refine ⟨_,rfl,vH (by0:=by0) (k:=2) (d:=(IntKind.i64.wrap (1+(IntKind.i64.wrap ((n:Int).tdiv 8)).tmod 5))) (ol:=0) (rl:=(IntKind.i64.wrap (1+(IntKind.i64.wrap ((n:Int).tdiv 40)).tmod 3))) (pa:=[⟨k2,[]⟩]) (ep:=⟨0,0,0⟩) (of:=⟨0,0,0⟩) (bo:=[]) (Iy hb ⟨by decide,by decide⟩ (cG _) z0 (cG _) (EZ hk2) QL QL AD) ?_⟩;simp only [kE,kD,oR,Dz,OpM.A,kM,NodeM.A,ids,C0,AM,bl,ul,eQ,cN,beq_self_eq_true,uO,jG,GC,FR];rfl
 ·refine aF gU (by decide) ?_;simp only [go_sem,t3,t8,hc,e1,e3,IN];refine aB (aA _) rfl (sT 3) rfl ?_;simp only [go_sem,show pF 3=true from rfl,e2];refine ⟨_,rfl,vH (by0:=by0) (k:=3) (d:=(IntKind.i64.wrap (1+(IntKind.i64.wrap ((n:Int).tdiv 8)).tmod 5))) (ol:=0) (rl:=0) (pa:=[⟨k2,[]⟩]) (ep:=⟨0,0,0⟩) (of:=⟨0,0,0⟩) (bo:=[]) (Iy hb ⟨by decide,by decide⟩ (cG _) z0 z0 (EZ hk2) QL QL AD) ?_⟩;simp only [kE,kD,oR,Dz,OpM.A,kM,NodeM.A,ids,C0,AM,bl,ul,eQ,cN,beq_self_eq_true,uO,jG,GC,FR];rfl
 ·refine aF gU (by decide) ?_;simp only [go_sem,t3,t8,hc,e1,e3,IN];refine aB (aA _) rfl (sT 4) rfl ?_;simp only [go_sem,show pF 4=true from rfl,e2];refine ⟨_,rfl,vH (by0:=by0) (k:=4) (d:=0) (ol:=0) (rl:=0) (pa:=[⟨k2,[]⟩]) (ep:=⟨0,0,0⟩) (of:=⟨0,0,0⟩) (bo:=[]) (Iy hb ⟨by decide,by decide⟩ z0 z0 z0 (EZ hk2) QL QL AD) ?_⟩;simp only [kE,kD,oR,Dz,OpM.A,kM,NodeM.A,ids,C0,AM,bl,ul,eQ,cN,beq_self_eq_true,uO,jG,GC,FR];rfl
 ·refine aF gU (by decide) ?_;simp only [go_sem,t3,t8,hc,e1,e3,IN];refine aB (aA _) rfl (sT 2) rfl ?_;simp only [go_sem,show pF 2=true from rfl,e2];refine ⟨_,rfl,vH (by0:=by0) (k:=2) (d:=(IntKind.i64.wrap (1+(IntKind.i64.wrap ((n:Int).tdiv 8)).tmod 5))) (ol:=0) (rl:=(IntKind.i64.wrap (1+(IntKind.i64.wrap ((n:Int).tdiv 40)).tmod 3))) (pa:=[⟨k2,[]⟩]) (ep:=⟨0,0,0⟩) (of:=⟨0,0,0⟩) (bo:=[]) (Iy hb ⟨by decide,by decide⟩ (cG _) z0 (cG _) (EZ hk2) QL QL AD) ?_⟩;simp only [kE,kD,oR,Dz,OpM.A,kM,NodeM.A,ids,C0,AM,bl,ul,eQ,cN,beq_self_eq_true,uO,jG,GC,FR];rfl
 ·refine aF gU (by decide) ?_;simp only [go_sem,t3,t8,hc,e1,e3,IN];refine aB (aA _) rfl (sT 6) rfl ?_;simp only [go_sem,show pF 6=false from rfl,e2];refine ⟨_,rfl,vH (by0:=by0) (k:=6) (d:=0) (ol:=0) (rl:=0) (pa:=[]) (ep:=⟨IntKind.i64.wrap (1+((n%3:Nat):Int)),1,(k1:Int)⟩) (of:=⟨0,0,0⟩) (bo:=[k3]) (Iy hb ⟨by decide,by decide⟩ z0 z0 z0 KE hnm QL (WR hk3)) ?_⟩;simp only [kE,kD,oR,Dz,OpM.A,kM,NodeM.A,ids,C0,AM,bl,ul,eQ,cN,beq_self_eq_true,uO,jG,GC,FR];rfl
 ·refine aF gU (by decide) ?_;simp only [go_sem,t3,t8,hc,e1,e3,IN];refine aB (aA _) rfl (sT 7) rfl ?_;simp only [go_sem,show pF 7=false from rfl,e2];refine ⟨_,rfl,vH (by0:=by0) (k:=7) (d:=0) (ol:=0) (rl:=0) (pa:=[]) (ep:=⟨0,0,0⟩) (of:=⟨IntKind.i64.wrap (1+((n%3:Nat):Int)),1,(k1:Int)⟩) (bo:=[43]) (Iy hb ⟨by decide,by decide⟩ z0 z0 z0 KE QL hnm (WR (by decide))) ?_⟩;simp only [kE,kD,oR,Dz,OpM.A,kM,NodeM.A,ids,C0,AM,bl,ul,eQ,cN,beq_self_eq_true,uO,jG,GC,FR];rfl
 ·refine aF gU (by decide) ?_;simp only [go_sem,t3,t8,hc,e1,e3,IN];refine aB (aA _) rfl (sT 13) rfl ?_;simp only [go_sem,show pF 13=true from rfl,e2];refine ⟨_,rfl,vH (by0:=by0) (k:=13) (d:=(IntKind.i64.wrap (1+(IntKind.i64.wrap ((n:Int).tdiv 8)).tmod 5))) (ol:=(IntKind.i64.wrap (1+(IntKind.i64.wrap ((n:Int).tdiv 40)).tmod 5))) (rl:=0) (pa:=[⟨k2,[]⟩]) (ep:=⟨0,0,0⟩) (of:=⟨IntKind.i64.wrap (1+((n%3:Nat):Int)),1,(k1:Int)⟩) (bo:=[]) (Iy hb ⟨by decide,by decide⟩ (cG _) (cG _) z0 (EZ hk2) QL hnm AD) ?_⟩;simp only [kE,kD,oR,Dz,OpM.A,kM,NodeM.A,ids,C0,AM,bl,ul,eQ,cN,beq_self_eq_true,uO,jG,GC,FR];rfl
def Sc (by0:Int) (hb:tK by0) (n:Nat) (hn:n<1000000):aC PQ G sH [.ag (IN by0),iv n] [] λr T=>(∃ o:OpM,o.ok∧o.By=by0∧r=.ag o.A)∧T=[]:=by
 refine (YD by0 hb n hn).dsub ?_;rintro r T' ⟨⟨cs,rfl,o,h1,h2,h3⟩,rfl⟩;exact ⟨.ag o.A,by simp only [kD];exact h3,⟨o,h1,h2,rfl⟩,rfl⟩
end
end
section
def YE {cs:List CardM} {d:Int} (h:(jT cs d).2=true):(jT cs d).1.Device=d:=by
 unfold jT at h ⊢;split at h
 ·rename_i c e;simpa using Ql e
 ·simp at h
def aD2 (nodes:List ND) (o:OpM) (W:List Nat) (n:Nat) (hs:1≤o.Seq) (h:∀ j,j<n→(nodes.getD j P6).o.By=o.By→qJ W j=true→(nodes.getD j P6).o.Seq<o.Seq):(yQ nodes o W n).1<o.Seq:=by
 induction n with
 | zero=>simp only [yQ];omega
 | succ n ih =>
  have i1:=ih λj hj=>h j (by omega);unfold yQ;split
  ·rename_i hc;simp only [eM,beq_iff_eq] at hc;have:=h n (by omega) hc.1 hc.2;show max _ _<_;omega
  ·exact i1
def UY (nodes:List ND) (o:OpM) (W:List Nat) (n j:Nat) (hj:j<n) (h1:(nodes.getD j P6).o.By=o.By) (h2:qJ W j=true) (h3:(nodes.getD j P6).o.Seq=o.Seq-1):(yQ nodes o W n).2=true:=by
 induction n with
 | zero=>omega
 | succ n ih =>
  unfold yQ;rcases bY j n with h | h
  ·have:=ih h;split
   ·simp [this]
   ·exact this
  ·obtain rfl:j=n:=by omega
   rw [if_pos (by rw [h1,h2,beq_self_eq_true];rfl)];show (_||_)=true;rw [h3,beq_self_eq_true,KV]
def Sd {p:PGM} {g:GM} {o:OpM} (s:Sim p g) (hp:p.ok) (w:g.wf) (h:(eK g o).1=0):(wS p o).2=0∧Sim (wS p o).1 (sZ g o).1:=by
 have a:=MV h;have hn:p.nodes.length=g.L.length:=by rw [←s.l,aL]
 have hlt:=UQ w a;have k1:xS o=0:=(Li o).trans a.check;have hI:∀ x∈o.Past,x∈p.I:=λx hx=>by rw [s.i];exact (nF g.I x).1 (a.there x hx)
 have k2:Af o∉p.I:=λhx=>a.twice ((nF g.I _).2 (s.i ▸ hx));have k4:=s.c o.By;have k5:((o.By==(jT p.cards o.By).1.Device)&&CD (jT p.cards o.By).1.Sign o.B o.SR o.SS)=true:=by
  rw [k4,a.sig,uO,YE a.card];simp
 have k7:Ac p o=[]:=List.filter_eq_nil_iff.2 λx hx=>by simp [hI x hx]
 have hat:∀ x,p.at x=(aR g.I x).toNat:=λx=>by rw [MU,s.i]
 have hmem:∀ x∈o.Past,p.at x∈rS g o:=λx hx=>by rw [hat];exact dE.2 ⟨x,hx,rfl⟩
 have hback:∀ k∈rS g o,∃ x∈o.Past,p.at x=k:=λk hk=>by
  obtain ⟨x,hx,e⟩:=dE.1 hk;exact ⟨x,hx,by rw [hat];exact e⟩
 have hpar:∀ k,(qJ (F3 p o.Past) k=true)↔k∈rS g o:=λk=>by
  rw [aAT p hp.n o.Past (λx hx=>by have:=hlt _ (hmem x hx);have:=hp.n;omega)];constructor
  ·rintro ⟨x,hx,rfl⟩;exact hmem x hx
  ·exact hback k
 have habo:∀ k,k<256→((qJ (Et p o.Past) k=true)↔∃ i∈rS g o,(g.In.getD i []).getD k false=true):=λk hk=>by
  rw [aAU hp];constructor
  ·rintro ⟨x,hx,hb⟩;refine ⟨p.at x,hmem x hx,?_⟩;rw [←s.w _ (hlt _ (hmem x hx)) k hk];exact hb
  ·rintro ⟨i,hi,hb⟩;obtain ⟨x,hx,rfl⟩:=hback i hi;refine ⟨x,hx,?_⟩;rw [←s.w _ (hlt _ hi) k hk] at hb;exact hb
 have hL:∀ i,i<g.L.length→(p.nodes.getD i P6).o=g.L.getD i default:=λi hi=>by
  have e1:p.nodes.getD i P6=p.nodes[i]:=by rw [fG,fV (by omega)];rfl
  have e2:g.L.getD i default=g.L[i]:=by rw [fG,fV hi];rfl
  rw [e1,e2];have h1:(p.nodes.map (·.o))[i]?=g.L[i]?:=by rw [s.l]
  rw [eD,fV hi,fV (by omega)] at h1;simpa using h1
 have hord:=a.order;unfold Fx at hord;rw [kY] at hord;have k8:BQ (F3 p o.Past) (Et p o.Past)=z4:=by
  refine X8 (HH p _) (HI hp _) λk hk h1=>?_;cases hb:qJ (Et p o.Past) k
  ·rfl
  ·obtain ⟨i,hi,hv⟩:=(habo k hk).1 hb;have:=hord i hi;rw [eM,kY] at this;have:=this.1 k ((hpar k).1 h1);rw [hv] at this;exact absurd this (by decide)
 have hseq:=CF a.check;have k9:FI p o.Past≤o.At:=by
  refine aCU p o.At o.Past hseq.2.2.2 λx hx=>?_;have hi:=hmem x hx;have h1:(p.nd x).o=g.L.getD (p.at x) default:=hL _ (hlt _ hi);have:=hord _ hi;rw [eM] at this;have:=this.2;rw [h1];simpa using this
 have hlast:∀ k,k<256→((qJ (wA p o) k=true)↔((nB g (rS g o)).getD k false=true)):=λk hk=>by
  rw [MT g _ hlt w.up,RU.head,wA,WJ (HI hp _) (HH p _),HR,hpar,habo k hk];constructor
  ·rintro (⟨i,hi,h1⟩ | h1)
   ·exact .inr ⟨i,hi,(w.past i (hlt i hi) k).1 h1⟩
   ·exact .inl h1
  ·rintro (h1 | ⟨i,hi,h1⟩)
   ·exact .inr h1
   ·exact .inl ⟨i,hi,(w.past i (hlt i hi) k).2 h1⟩
 have hpl:(nB g (rS g o)).length=g.L.length:=BP g _;have hr:=a.right;unfold Dk at hr;rw [eM,kY] at hr;have hzl:(g.L.zip (nB g (rS g o))).length=g.L.length:=by simp [hpl]
 have hz:∀ j (hj:j<g.L.length),(g.L.zip (nB g (rS g o)))[j]'(by omega)=(g.L.getD j default,(nB g (rS g o)).getD j false):=λj hj=>by
  rw [List.getElem_zip,fG,fG,fV hj,fV (by omega)];rfl
 have k10:(yQ p.nodes o (wA p o) p.nodes.length).1<o.Seq:=by
  refine aD2 _ _ _ _ hseq.1 λj hj h1 h2=>?_;rw [hL j (by omega)] at h1 ⊢;have h3:=(hlast j (by have:=hp.n;omega)).1 h2;have h4:=hr.1 _ (jY (show j<(g.L.zip (nB g (rS g o))).length by omega));rw [hz j (by omega)] at h4;simp only [Fw,h3,h1] at h4;simpa using h4
 have k11:J8 p o=false:=by
  unfold J8;rw [decide_eq_false (by omega),Ci];rcases HR _ _ ▸ hr.2 with h1 | h1
  ·have:o.Seq=1:=by simpa using h1
   rw [decide_eq_false (by omega)];rfl
  ·rw [Nb] at h1;obtain ⟨e,he,h2⟩:=h1;obtain ⟨j,hj,rfl⟩:=AH he;rw [hz j (by omega)] at h2;simp only [Fw,eM,beq_iff_eq] at h2;rw [UY p.nodes o (wA p o) p.nodes.length j (by omega) (by rw [hL j (by omega)];exact h2.1.2) ((hlast j (by have:=hp.n;omega)).2 h2.1.1) (by rw [hL j (by omega)];exact h2.2)];simp
 have hadd:wS p o=(⟨p.cards,p.nodes++[⟨o,Af o,wA p o,yP p o.Past⟩]⟩,0):=by
  rw [wS,if_neg (by simp [k1]),OR,if_neg k2,if_neg (by have:=a.full;omega),if_neg (by rw [k4,a.card];decide),if_neg (by rw [k5];decide),if_neg (by rw [hn,a.kind];decide),if_neg (by rw [k7];decide),SP,if_neg (by rw [k8,decide_eq_false (by omega)];decide),if_neg (by rw [k11];decide)]
 rw [hadd,Dy a h];refine ⟨rfl,s.c,by simp [s.l],by simp only [PGM.I,gQ,cN,eQ];rw [←s.i];rfl,?_⟩;intro i hi k hk;simp only [dU,QX] at hi;rcases bY i g.L.length with h1 | h1
 ·rw [aAV w _ i h1 k,mS _ _ _ _ (by omega)];exact s.w i h1 k hk
 ·obtain rfl:i=g.L.length:=by omega
  have e1:((g.In.map λr=>r++[false])++[nB g (rS g o)++[false]]).getD g.L.length []=nB g (rS g o)++[false]:=by
   have h2:g.L.length=(g.In.map λr=>r++[false]).length:=by simp [w.inn]
   rw [h2];exact lF _ _ _
  have e2:(p.nodes++[(⟨o,Af o,wA p o,yP p o.Past⟩:ND)]).getD g.L.length P6=⟨o,Af o,wA p o,yP p o.Past⟩:=by rw [←hn];exact lF _ _ _
  rw [e1,e2,IK,oU];exact hlast k hk
end
section
inductive Reach (cs:List CardM):GM→Prop
 | new:Reach cs ⟨cs,[],[],[],[]⟩
 | add {g:GM} {o:OpM}:Reach cs g→o.ok→(Af o).ok→Reach cs (sZ g o).1
structure Good (cs:List CardM) (g:GM):Prop where
 ok:g.ok
 wf:g.wf
 cards:g.Cards=cs
 n:g.L.length≤200
 ids:∀ o∈g.L,(Af o).ok
 sim:Sim (rN cs g.L) g
 all:∀ i (h:i<g.L.length),(wS (rN cs (g.L.take i)) g.L[i]).2=0
def Reach.good {cs:List CardM} (hc:cardsOk cs) {g:GM} (h:Reach cs g):Good cs g:=by
 induction h with
 | new =>
  exact ⟨⟨by simp,hc.n,hc.cs,by simp,rfl,by simp,rfl,by simp,rfl,by simp⟩,aF8 cs,rfl,by simp,by simp,aCV hc,by simp⟩
 | @add g o _ ho hid ih =>
  by_cases h:(eK g o).1=0
  ·have a:=MV h;have e:=Dy a h;have hpo:(rN cs g.L).ok:=P9 hc g.L λx hx=>⟨ih.ok.ops x hx,ih.ids x hx⟩
   have st:=Sd ih.sim hpo ih.wf h;have hL:(sZ g o).1.L=g.L++[o]:=by rw [e]
   have hf:=a.full;refine ⟨aCL ih.ok ho (by omega) hid,aF9 ih.wf h,by rw [e];exact ih.cards,by rw [hL];simp;omega,?_,?_,?_⟩
   ·intro x hx;rw [hL] at hx;rcases eO.1 hx with hx | hx
    ·exact ih.ids x hx
    ·rw [gZ.1 hx];exact hid
   ·rw [hL,P8];exact st.2
   ·intro i hi;simp only [hL,dU,QX] at hi ⊢;rcases bY i g.L.length with h1 | h1
    ·rw [QY (by omega),List.getElem_append_left h1];exact ih.all i h1
    ·obtain rfl:i=g.L.length:=by omega
     rw [Ey rfl];simp only [List.getElem_concat_length];exact st.1
  ·have e:(sZ g o).1=g:=by rw [sZ,if_pos h]
   rw [e];exact ih
section
variable {G:Nat→Option (List AV)}
def aJk (hK:GK G) {cs:List CardM} (hc:cardsOk cs) {g:GM} (h:Reach cs g):aC PQ G Gn [.ag g.A] [] λr T=>r=.ptr 0 0∧T=TG 0 (rN cs g.L):=by
 have gd:=h.good hc;have hcs:=gd.cards;subst hcs;exact aF7 hK g gd.ok hc gd.ids gd.all
end
end
section
def UZ (out:List Id) (x:Id):(NJ out x).Perm (out++[x]):=by
 unfold NJ;have e:out=out.take (Fu x out out.length)++out.drop (Fu x out out.length):=(KO _ _).symm;generalize Fu x out out.length=p at *
 refine List.Perm.trans ?_ (List.Perm.append_right [x] (List.Perm.of_eq e.symm));rw [eE,eE];exact Uz _ List.perm_append_comm
def Se (l:List Id):∀ out,(l.foldl NJ out).Perm (out++l):=by
 induction l with
 | nil=>intro out;simp
 | cons x l ih =>
  intro out;refine (ih (NJ out x)).trans ?_;have:=List.Perm.append_right l (UZ out x);simpa using this
def fO (l:List Id):(iG l).Perm l:=by
 have:=Se l [];simpa [iG] using this
def aBg {I:List Id} {p:Nat→Bool} {n:Nat} (hn:n≤I.length):∀ x∈Jc I p n,x∈I:=by
 intro x hx;unfold Jc at hx;obtain ⟨i,hi,rfl⟩:=dE.1 hx;have:=rV.1 (Ai.1 hi).1;rw [fG,fV (by omega)];exact jY _
def Ua {I:List Id} {p:Nat→Bool} {n:Nat} (hn:n≤I.length) (hI:I.Nodup):(Jc I p n).Nodup:=by
 unfold Jc;rw [List.Nodup,NZ];refine (Y4.filter p).imp_of_mem ?_;intro i j hi hj hij e;have h1:=rV.1 (Ai.1 hi).1;have h2:=rV.1 (Ai.1 hj).1;rw [fG,fV (by omega),fG,fV (by omega)] at e;exact hij ((IV hI).1 (by simpa using e))
def OZ {I:List Id}:∀ (l out:List Id),(∀ x∈out,x∈I)→∀ x∈l.foldl (qZ I) out,x∈I
 | [],_,h=>h
 | y::l,out,h=>OZ l _ (by
   intro x hx;unfold qZ at hx;split at hx
   ·rename_i hc;simp only [eM,decide_eq_true_eq] at hc;rcases eO.1 hx with hx | hx
    ·exact h x hx
    ·rw [gZ.1 hx];exact (nF I y).1 hc.1
   ·exact h x hx)
def I0 {I:List Id}:∀ (l out:List Id),out.Nodup→(l.foldl (qZ I) out).Nodup
 | [],_,h=>h
 | y::l,out,h=>I0 l _ (by
   unfold qZ;split
   ·rename_i hc;simp only [eM,decide_eq_true_eq,Cg,decide_eq_false_iff_not] at hc;rw [HN];refine ⟨h,by simp,?_⟩;intro a ha b hb e;rw [gZ.1 hb] at e;exact hc.2 (e ▸ ha)
   ·exact h)
def Oa {I ab:List Id}:∀ (l out:List Id),(∀ x∈out,x∈I)→∀ x∈l.foldl (tB I ab) out,x∈I
 | [],_,h=>h
 | y::l,out,h=>Oa l _ (by
   intro x hx;unfold tB at hx;split at hx
   ·rename_i hc;simp only [eM,decide_eq_true_eq] at hc;rcases eO.1 hx with hx | hx
    ·exact h x hx
    ·rw [gZ.1 hx];exact (nF I y).1 hc.1
   ·exact h x hx)
section
variable {g:GM}
def aBh (hi:g.I.length=g.L.length) (l:List Id):∀ x∈nV g l,x∈g.I:=λx hx=>aBg (by omega) x ((fO _).mem_iff.1 hx)
def Ub (hi:g.I.length=g.L.length) (hn:g.I.Nodup) (l:List Id):(nV g l).Nodup:=(fO _).nodup_iff.2 (Ua (by omega) hn)
def aBi (hi:g.I.length=g.L.length) (l:List Id):∀ x∈Iv g l,x∈g.I:=λx hx=>OZ l _ (aBh hi l) x ((fO _).mem_iff.1 hx)
def Uc (hi:g.I.length=g.L.length) (hn:g.I.Nodup) (l:List Id):(Iv g l).Nodup:=(fO _).nodup_iff.2 (I0 l _ (Ub hi hn l))
def aBj (l:List Id):(nV g l).length≤g.L.length:=by
 rw [nV,(fO _).length_eq];exact HE _ _ _
def aBk (l:List Id):(Iv g l).length≤g.L.length+l.length:=by
 have h1:=aBj (g:=g) l;have h2:=EV g.I l (nV g l);rw [Iv,(fO _).length_eq];omega
def YF (l:List Id):∀ x∈F1 g l,x∈g.I:=λx hx=>Oa l [] (by simp) x ((fO _).mem_iff.1 hx)
def YG (l:List Id):(F1 g l).length≤l.length:=by
 have h2:=EU g.I (nV g l) l [];rw [F1,(fO _).length_eq];simpa using h2
def Me (hi:g.I.length=g.L.length) (l:List Int):∀ x∈lL g l,x∈g.I:=by
 intro x hx;unfold lL at hx;split at hx
 ·exact (fO _).mem_iff.1 hx
 ·exact aBi hi _ x hx
def QM (hi:g.I.length=g.L.length) (hn:g.I.Nodup) (l:List Int):(lL g l).Nodup:=by
 unfold lL;split
 ·exact (fO _).nodup_iff.2 hn
 ·exact Uc hi hn _
def Mf (hg:g.ok) (l:List Int):(lL g l).length≤g.L.length+4:=by
 unfold lL;split
 ·rw [(fO _).length_eq,hg.i];omega
 ·have:=aBk (g:=g) (Ev g.I l);have:=MX g.I l;omega
end
def Ud {o:OpM} (h:uD o=0):o.Seq≤2147483647∧o.At≤2147483647:=by
 unfold uD at h;split at h
 ·simp at h
 split at h
 ·simp at h
 split at h
 ·simp at h
 ·rename_i hn;have:oL o=true:=by cases e:oL o<;>simp_all
  unfold oL oG at this;simp only [eM,decide_eq_true_eq] at this;omega
def Reach.seqb {cs:List CardM} {g:GM} (h:Reach cs g):∀ x∈g.I,x.b≤2147483647:=by
 induction h with
 | new=>simp
 | @add g o hr ho hid ih =>
  by_cases h:(eK g o).1=0
  ·have a:=MV h;rw [Dy a h];intro x hx;rcases eO.1 hx with hx | hx
   ·exact ih x hx
   ·rw [gZ.1 hx];exact (Ud a.check).1
  ·have e:(sZ g o).1=g:=by rw [sZ,if_pos h]
   rw [e];exact ih
end
end Hud
