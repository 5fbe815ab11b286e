import Derived.Test.YtlhonkjgkfdnmaaGreatDoorLib05
import Derived.Lib.AppendStr
import Derived.Laws.Append
set_option linter.all false
set_option maxHeartbeats 40000000
namespace Hud
open Go Go.Lib
section
variable{P:Program}{G:L_}{h:GH}{φ:Nat->Value}{w:World}{T:aK}{s:List (Nat×AV)}{a:Act}
def aF2 {ev:Operand->AV} {x y:Operand} {r:AV} {T':aK} (a:cE T ev (.apS x y)=some (r,T')):
 ∃ S,ev y=.v (.string S) /\
  ((ev x=.v (.slice none 0 0)/\S.size<=140737488355328/\S.size<=maxLen/\r=.own T.length/\T'=T++[some (.arr 1 (lJ S))]) \/
   ∃i b,ev x=.own i/\cR T i=some (.arr 1 b)/\b.length+S.size<=140737488355328/\b.length+S.size<=maxLen/\r=.own T.length/\T'=T.set i none++[some (.arr 1 (b++lJ S))]):=by
 simp only[cE]at a;split at a;rename_i S k;refine⟨S,k,?_⟩;split at a;rename_i d;split at a;rename_i c;injection a with a;injection a with h g;exact .inl ⟨d,c.1,c.2,h.symm,g.symm⟩;simp at a;rename_i i d;split at a;rename_i l b j;split at a;rename_i c;obtain⟨rfl,f,e⟩:=c;injection a with a;injection a with h g;exact .inr ⟨i,b,d,j,f,e,h.symm,g.symm⟩;simp at a;simp at a;simp at a;simp at a
def Ty(n:Nat):∀l:List UInt8,cK h (l.map λb=>AV.v (.int .u8 (b.toNat:Int))) (l.map λb=>Value.int .u8 (b.toNat:Int))|[]=>by simp[cK]|x::l=>by simp only[fG,cK];exact⟨_,_,rfl,by simp[oB],Ty n l⟩
def aA1{n:Nat}(S:ByteArray):C6 h φ n true (lJ S).flatten (strCells S):=by
 have e:(lJ S).flatten=S.data.toList.map λb=>AV.v (.int .u8 (b.toNat:Int)):=by
  unfold lJ
  induction S.data.toList with
  |nil=>rfl|cons x l ih=>simp only[fG,zK,ih];rfl
 rw[e];show cK h _ _;exact Ty 0 _
def aCk(w:World){t u e ty:TypeId}(f:P.underlying t=some (.slice e))(a:P.underlying u=some .string){i:TypeInfo}(g:P.info? e=some i)(A:Option Addr)(c:Nat){S:ByteArray}(b:S.size=0)(j:A=none\/A.isSome=true):
 (Builtin.append_ #[t,u] ty #[.slice A 0 c,.string S]).run P w=.ok (.slice A 0 c) w:=by
 have d:=run_firstCells_string (P:=P) w i.size S;have h:strCells S=[]:=Ae (by rw[strCells_length,b]);rw[b,h]at d;cases A<;>simp[Builtin.append_,run_underlying f,run_underlying a,Go.sizeOf,typeInfo,g,Builtin.lenOf,b,d,storeCells]
def nilS(w:World){t u e ty:TypeId}(f:P.underlying t=some (.slice e))(a:P.underlying u=some .string){i:TypeInfo}(g:P.info? e=some i){z:Value}(d:i.zero=some z)(S:ByteArray)(h0:0<S.size)(b:(S.size:Int)<=9223372036854775807)(c:S.size*i.bytes<=281474976710656):
 (Builtin.append_ #[t,u] ty #[.slice none 0 0,.string S]).run P w =
  .ok (.slice (some ⟨w.heap.size,0,none⟩) S.size (grownCap w S.size 0 e)) (w.drew.alloc (.cells ((strCells S).toArray++Builtin.zeroCells z.cells (grownCap w S.size 0 e-S.size)) e)):=by
 rw[run_append_nil_string w t u ty e i z f a g d S h0 b c];congr 3;apply Array.ext';simp[strCells]
def aA2 {t u e ty:TypeId} (ht:P.underlying t=some (.slice e)) (W:P.underlying u=some .string) {i:TypeInfo} (hi:P.info? e=some i) {z:Value} (hz:i.zero=some z) (bg:z.cells.size=i.size) (ba:i.size=1) (an:i.bytes=1)
    (hG:tU G h) (hI:Inv h φ w T) (hS:uN h φ T.length s a) {p q:Operand} {x:AV} {T':aK} (he:cE T (dW G s) (.apS p q)=some (x,T')):
    jD h φ T w ((Builtin.append_ #[t,u] ty #[a.eval p,a.eval q]).run P w) x T':=by
  have h0:0<i.size:=by omega
  obtain⟨S,bh,am⟩:=aF2 he;have hp:=dN hG hS p;have hu:a.eval q=.string S:=lW hG hS bh;obtain⟨new,L⟩:∃new,new=lJ S:=⟨_,rfl⟩
  obtain⟨f,B⟩:∃f,f=strCells S:=⟨_,rfl⟩
  obtain⟨I,av⟩:∃I:Bool,I=true:=⟨_,rfl⟩
  have F:new.length=S.size:=by rw[L];simp[lJ]
  have y:∀d∈new,d.length=i.size/\∀c∈d,PO I c=true:=by intro d D;rw[L]at D;simp only[lJ,dF]at D;obtain⟨x,_,rfl⟩:=D;refine⟨by rw[ba];rfl,λc hc=>?_⟩;rw[cA.1 hc,av];rfl
  have Y:C6 h φ T.length I new.flatten f:=by rw[L,B,av];exact aA1 S
  have aw:(dW G s p=.v (.slice none 0 0)/\new.length*i.bytes<=140737488355328/\new.length<=maxLen/\x=.own T.length/\T'=T++[some (jE I i.size new)]) \/
       ∃j l U,dW G s p=.own j/\sZ (cR T j)=some (i.size,l,U)/\(l.length+new.length)*i.bytes<=140737488355328/\l.length+new.length<=maxLen/\x=.own T.length/\T'=T.set j none++[some (jE (I&&U) i.size (l++new))]:=by
    rw[ba,an,av,F,L];rcases am with⟨e1,e2,e3,e4,e5⟩|⟨j,l,e1,e2,e3,e4,e5,e6⟩
    · exact .inl ⟨e1,by omega,e3,e4,e5⟩
    · exact .inr ⟨j,l,true,e1,by rw[e2];rfl,by omega,e4,e5,e6⟩
  have A:f.length=new.length*i.size:=by rw[<-Y.length,Af λd D=>(y d D).1]
  have bd:∀v∈f,v.oneCell'=true:=by
    intro v hv;obtain⟨j,hj⟩:=QF hv;have be:j<new.flatten.length:=by
      rw[Y.length];rcases eD j f.length with H|H
      · exact H
      · rw[sX H]at hj;simp at hj
    obtain⟨u,h1,h2⟩:=Y.toL.get (jN be);rw[hj]at h1;injection h1 with h1;subst h1;obtain⟨d,D,bk⟩:=Kh.1 (eQ be);exact Lr h2 (Ls ((y d D).2 _ bk))
  have k:∀(m M:Nat)(xs:C_),xs.length=m*i.size->m<=maxLen ->
      (xs.toArray++Builtin.zeroCells z.cells (grownCap w m M e-m)).size=grownCap w m M e*i.size/\(xs.toArray++Builtin.zeroCells z.cells (grownCap w m M e-m)).toList.take (m*i.size)=xs/\m<=grownCap w m M e/\grownCap w m M e<=maxLen:=by
    intro m M xs ai hm;have bi:=grownCap_ge w m M e;refine⟨?_,?_,bi,grownCap_le_maxLen w m M e hm⟩
    · simp only[Array.size_append,Gn,size_zeroCells,bg,ai,<-aGg]
      congr 1
      omega
    · simp only[TV]
      rw[<-ai]
      exact YL
  rcases aw with⟨hx,hb,hm,rfl,rfl⟩|⟨j,l,U,hx,hg,hb,hm,rfl,rfl⟩
  ·
    rw[lW hG hS hx,hu]
    by_cases Z:new=[]
    · have aq:S.size=0:=by rw[<-F,Z];rfl
      rw[Z]
      have:(Builtin.append_ #[t,u] ty #[.slice none 0 0,.string S]).run P w=.ok (.slice none 0 0) w:=aCk w ht W hi none 0 aq (.inl rfl)
      rw[this]
      have:=tL (w':=w) (o:=jE I i.size []) (v:=.slice none 0 0) hI rfl rfl rfl (cN _) (λ_ _=>rfl) (λg hg=>by simp[kI]at hg) (mS.2 ⟨by simp,.inl ⟨none,bI,rfl⟩⟩)
      refine⟨_,w,h,_,rfl,this.2,this.1,?_⟩
      simp only[Rp]
      exact⟨by simp,bI.symm,_,_,_,rfl⟩
    · have bc:0<new.length:=H3.2 Z
      have hr:=nilS (P:=P) w (ty:=ty) ht W hi hz S (by omega) (by unfold maxLen at hm;omega) (by rw[an];omega)
      rw[<-F,<-B]at hr
      rw[hr]
      obtain⟨c1,c2,c3,c4⟩:=k new.length 0 f A hm
      exact tD (w1:=w.drew) hI rfl rfl rfl rfl y rfl c3 c4 c1 (by rw[c2];exact Y) e
  ·
    rw[hx]at hp
    simp only[Rp]at hp
    obtain⟨hl,h1|⟨g,R,n,E,N,hw,h2,h3,h4,h5,h6⟩⟩:=rK hI hg
    ·
      obtain⟨A0,N,rfl⟩:=h1
      rw[hp.2.1,N,hu]
      simp only[dM,gQ,pQ]at hb hm⊢
      obtain⟨af,ax⟩:=xI hI j
      have ah:∀{r:Result Value},jD h φ (T.set j none) w r (.own (T.set j none).length) (T.set j none++[some (jE (I&&U) i.size new)])->jD h φ T w r (.own T.length) (T.set j none++[some (jE (I&&U) i.size new)]):=by rintro r ⟨v,w',h',φ',m1,m2,m3,m4⟩;rw[cL]at m4;exact⟨v,w',h',φ',m1,ax.trans m2,m3,m4⟩
      apply ah
      by_cases Z:new=[]
      · have aq:S.size=0:=by rw[<-F,Z];rfl
        rw[Z]
        have:(Builtin.append_ #[t,u] ty #[.slice A0 0 0,.string S]).run P w=.ok (.slice A0 0 0) w:=aCk w ht W hi A0 0 aq (by cases A0;exact .inl rfl;exact .inr rfl)
        rw[this]
        have:=tL (w':=w) (o:=jE (I&&U) i.size []) (v:=.slice A0 0 0) af rfl rfl rfl (cN _) (λ_ _=>rfl) (λg hg=>by simp[kI]at hg) (mS.2 ⟨by simp,.inl ⟨A0,bI,rfl⟩⟩)
        refine⟨_,w,h,_,rfl,this.2,this.1,?_⟩
        simp only[Rp]
        exact⟨by simp,bI.symm,_,_,_,rfl⟩
      · have bc:0<new.length:=H3.2 Z
        cases A0 with
          | none=>
            have hr:=nilS (P:=P) w (ty:=ty) ht W hi hz S (by omega) (by unfold maxLen at hm;omega) (by rw[an];omega)
            rw[<-F,<-B]at hr
            rw[hr]
            obtain⟨c1,c2,c3,c4⟩:=k new.length 0 f A hm
            exact tD (w1:=w.drew) af rfl rfl rfl rfl (λd D=>⟨(y d D).1,λc hc=>qO ((y d D).2 c hc) (λH=>(zJ _ _ ▸ H:I=true/\U=true).1)⟩) rfl c3 c4 c1 (by rw[c2,cL];exact Y.weaken λH=>(zJ _ _ ▸ H:I=true/\U=true).1) e
          | some a0=>
            have hr:=run_append_grow_string (P:=P) w t u ty e i z ht W hi hz a0 0 0 [] (by simp) (λj v hj=>by simp at hj) S (by omega) (by unfold maxLen at hm;omega) (growslice_fits (by omega) (by rw[an];omega))
            rw[<-F,<-B]at hr
            rw[hr]
            obtain⟨c1,c2,c3,c4⟩:=k new.length 0 f A hm
            simp only[pQ,YG]at *
            exact tD (w1:=w.drew) af rfl rfl rfl rfl (λd D=>⟨(y d D).1,λc hc=>qO ((y d D).2 c hc) (λH=>(zJ _ _ ▸ H:I=true/\U=true).1)⟩) rfl c3 c4 c1 (by rw[c2,cL];exact Y.weaken λH=>(zJ _ _ ▸ H:I=true/\U=true).1) e
    · rw[hp.2.1,N,hu]
      have K:(n.toList.take (l.length*i.size)).length=l.length*i.size:=by rw[<-h6.length,Af λd D=>(hl d D).1]
      have ao:(I&&U)=true->I=true/\U=true:=λH=>by simpa using H
      have ad:∀d∈l++new,d.length=i.size/\∀c∈d,PO (I&&U) c=true:=by
        intro d D;rcases cG.1 D with D|D
        · exact⟨(hl d D).1,λc hc=>qO ((hl d D).2 c hc) λH=>(ao H).2⟩
        · exact⟨(y d D).1,λc hc=>qO ((y d D).2 c hc) λH=>(ao H).1⟩
      have aa:C6 h φ T.length (I&&U) (l++new).flatten (n.toList.take (l.length*i.size)++f):=by rw[Kf];exact(h6.weaken λH=>(ao H).2).app (Y.weaken λH=>(ao H).1)
      by_cases X:l.length+new.length<=R+1
      ·
        have hf:(Builtin.firstCells i.size new.length (.string S)).run P w=.ok f.toArray w:=by rw[F,B];exact run_firstCells_string w i.size S
        have aj:l.length+S.size<=R+1:=by omega
        rw[F]at hf
        have bf:l.length*i.size+f.length<=n.size:=by rw[A,h4,<-aGg];exact H2 _ X
        have nG:=run_storeCells_at P g (l.length*i.size) E f 0 n w hw (by simpa using bf) bd
        simp only[mG]at nG
        have bb:(Builtin.append_ #[t,u] ty #[.slice (some ⟨g,0,none⟩) l.length (R+1),.string S]).run P w =
            .ok (.slice (some ⟨g,0,none⟩) (l.length+new.length) (R+1)) (w.setRow g (n.toList.take (l.length*i.size)++f++n.toList.drop (l.length*i.size+f.length)).toArray):=by
          rw[F];simp[Builtin.append_,run_underlying ht,run_underlying W,Go.sizeOf,typeInfo,hi,Builtin.lenOf,aj,hf,iG,nG]
        rw[bb]
        have bm:=xI hI j
        have ac:=bH (DE hg)
        refine⟨_,_,h,upd φ T.length (.slice (some ⟨g,0,none⟩) (l.length+new.length) (R+1)),rfl,?_,?_,?_⟩
        · refine⟨rfl,rfl,rfl,by simp,λb hb O=>setRow_other w g b _ λe=>O j _ ac (by rw[N,e];rfl),CA.refl h,λ_ _ e=>.inl e,λm hm=>gN hm,λm o b em ae=>?_,by simp,cN _⟩
          rcases kG em with⟨ab,J⟩|⟨rfl,J⟩
          · rw[cL]at ab
            rw[gN ab]at ae
            rcases oM J with⟨_,V⟩|⟨_,V⟩
            · simp at V
            · exact .inr ⟨m,o,V,ae⟩
          · rw[cL,bI]at ae
            simp only[kI,E_]at ae
            exact .inr ⟨j,_,ac,by rw[N];simp[kI,ae]⟩
        · refine⟨λb cs eb=>?_,λm o em=>?_,λm m' o o' b em J Q C=>?_⟩
          · obtain⟨E',fr,ap⟩:=hI.gh b cs eb
            refine⟨E',fr,?_⟩
            rw[setRow_other w g b _ λe=>by subst e;rw[h5]at eb;simp at eb]
            exact ap
          · rcases kG em with⟨ab,J⟩|⟨rfl,J⟩
            · rw[cL]at ab
              rcases oM J with⟨_,V⟩|⟨O,V⟩
              · simp at V
              · rw[dZ,cL]
                have h7:=hI.obj m o V
                refine qN h7 (CA.refl h) (by simp) (λj hj=>gN hj) ab λb ap=>?_
                obtain⟨h8,h9⟩:=iT h7 ap
                refine⟨setRow_other w g b _ λe=>O (hI.dis m j o _ b V ac ap (by rw[N,e];rfl)),h9⟩
            · injection J with J
              subst J
              rw[cL,dZ,cL]
              refine mS.2 ⟨ad,.inr ⟨g,R,_,E,by rw[bI,dZ],setRow_heap w g n _ E _ hw,by rw[dZ];exact X,h3,?_,h5,?_⟩⟩
              · rw[Gn]
                simp only[dZ,vY,K]
                rw[show n.toList.length=n.size from GV,<-h4]
                omega
              · have au:(n.toList.take (l.length*i.size)++f).length=(l++new).length*i.size:=by rw[dZ,K,A,dZ,aGg]
                show C6 h _ _ (I&&U) _ (List.take _ (n.toList.take (l.length*i.size)++f++n.toList.drop (l.length*i.size+f.length)))
                rw[<-au,YL]
                exact aa.mono (CA.refl h) (by simp) λi hi=>gN hi
          · rcases kG em with⟨al,az⟩|⟨rfl,az⟩<;>rcases kG J with⟨ak,ay⟩|⟨rfl,ay⟩
            · rw[cL]at al ak
              rw[gN al]at Q;rw[gN ak]at C
              exact bm.1.dis m m' o o' b az ay Q C
            · rw[cL]at al C
              rw[gN al]at Q;rw[bI]at C
              simp only[kI,E_]at C
              rcases oM az with⟨_,V⟩|⟨O,V⟩
              · simp at V
              · exact absurd (hI.dis m j o _ b V ac Q (by rw[N,<-C];rfl)) O
            · rw[cL]at ak Q
              rw[gN ak]at C;rw[bI]at Q
              simp only[kI,E_]at Q
              rcases oM ay with⟨_,V⟩|⟨O,V⟩
              · simp at V
              · exact absurd (hI.dis m' j o' _ b V ac C (by rw[N,<-Q];rfl)) O
            · rfl
        · simp only[Rp]
          rw[dZ,cL]
          exact⟨by simp,by rw[bI],_,_,_,rfl⟩
      ·
        have O:new≠[]:=by rintro rfl;simp at X;omega
        · have ar:∀j v,(n.toList.take (l.length*i.size))[j]?=some v->w.cell? ((⟨g,0,none⟩:Addr).add j)=some v:=by
            intro j v hj;rw[iG,DD hw];rw[BT]at hj;split at hj
            · rw[<-hj];simp
            · simp at hj
          have hr:=run_append_grow_string (P:=P) w t u ty e i z ht W hi hz ⟨g,0,none⟩ l.length (R+1) _ K ar S (by omega) (by unfold maxLen at hm;omega) (growslice_fits (by omega) (by rw[<-F];exact hb))
          rw[<-F,<-B]at hr
          rw[hr]
          obtain⟨af,ax⟩:=xI hI j
          have ah:∀{r:Result Value},jD h φ (T.set j none) w r (.own (T.set j none).length) (T.set j none++[some (jE (I&&U) i.size (l++new))])->jD h φ T w r (.own T.length) (T.set j none++[some (jE (I&&U) i.size (l++new))]):=by rintro r ⟨v,w',h',φ',m1,m2,m3,m4⟩;rw[cL]at m4;exact⟨v,w',h',φ',m1,ax.trans m2,m3,m4⟩
          apply ah
          have ai:(n.toList.take (l.length*i.size)++f).length=(l.length+new.length)*i.size:=by rw[dZ,K,A,aGg]
          obtain⟨c1,c2,c3,c4⟩:=k (l.length+new.length) (R+1) (n.toList.take (l.length*i.size)++f) ai hm
          have bj:(n.toList.take (l.length*i.size)).toArray++f.toArray=(n.toList.take (l.length*i.size)++f).toArray:=by simp
          rw[bj]
          exact tD (w1:=w.drew) af rfl rfl rfl rfl ad (by simp) c3 c4 c1 (by rw[c2,cL];exact aa) e
end
end Hud
