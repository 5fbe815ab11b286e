import Derived.WalkKit
set_option linter.all false
namespace Hud
open Go
theorem o_{p:Prop}(h:p:=by omega):p:=h
theorem d_{p:Prop}(h:p:=by decide):p:=h
theorem s_{p:Prop}(h:p:=by simp):p:=h
theorem k_{p:Prop}(h:p:=by kernel_rfl):p:=h
theorem a_{p:Prop}(h:p:=by rw[aJ (by omega) (by omega)];omega):p:=h
theorem g_{p:Prop}(h:p:=by unfold maxLen;omega):p:=h
theorem r_{p:Prop}(h:p:=by have b:=h.ints;refine⟨?_,h.nums,h.epoch,h.of,h.past,h.path,h.body,h.refs,h.guards,h.boxes,h.hist⟩;simp_all):p:=h
theorem t_{p:Prop}(h:p:=by simp_all[pS]):p:=h
theorem u_{p:Prop}(h:p:=by simp only[go_sem,aM,TG,MG]):p:=h
theorem h_{p:Prop}(h:p:=by simp_all):p:=h
theorem f_{p:Prop}(h:p:=by simp only[go_sem,cv]):p:=h
theorem m_{p:Prop}(h:p:=by grind):p:=h
theorem l_{p:Prop}(h:p:=by obtain⟨D,n⟩:=yK;simp[Op.equal,n,Op.equalIn,run_underlying B]):p:=h
theorem p_{p:Prop}(h:p:=by simp_all;omega):p:=h
theorem c_{p:Prop}(h:p:=by simp;omega):p:=h
theorem b_{p:Prop}(h:p:=by intro l2 M K h1 h2 h3 X;obtain⟨u,f⟩:=(h.app (X:=X)).setVch (T':=(T++X).set s.ms[k].2.2 (some (KO l2 M K))) hk bg z (V':=r.V.filter (λv=>!aDy o v)++[qA o r.V]) (by simp) (λj P t=>by rw[aY (Ne.symm t)]) ⟨l2,M,K,dS (aF ae),h2,λv=>by rw[h1,ab],h3⟩ ac;exact⟨u,Wr.ofApp h f⟩):p:=h
theorem e_{p:Prop}(h:p:=by rw[d];rfl):p:=h
theorem i_{p:Prop}(h:p:=by simp only[go_sem]):p:=h
theorem j_{p:Prop}(h:p:=by simp only[go_sem,aM,TG,MG,cv]):p:=h
theorem v_{p:Prop}(h:p:=by rw[BS,if_neg (by simp[O]),if_neg (by simp[S]),if_neg (by simp[k3]),if_neg (by simp[k5]),if_neg (by simp[k9]),if_neg (by simp[I]),if_neg (by simp[U]),if_pos ad];simp only[H];rw[if_neg (show ¬(i:Int)<0 by omega),nI,nH F]):p:=h
theorem w_{p:Prop}(h:p:=by simpa using h):p:=h
theorem x_{p:Prop}(h:p:=by simp only[fX]):p:=h
theorem y_{p:Prop}(h:p:=by simp only[go_sem,TG,MG]):p:=h
theorem z_{p:Prop}(h:p:=by simp[Rp]):p:=h
theorem A_{p:Prop}(h:p:=by rw[BS,if_neg (by simp[O]),if_neg (by simp[S]),if_neg (by simp[k3]),if_neg (by simp[k5]),if_neg (by simp[k9]),if_neg (by simp[I]),if_neg (by simp[U]),if_pos ad];simp only[H];rfl):p:=h
theorem S_{p:Prop}(h:p:=by rw[BS,if_neg (by simp[O]),if_neg (by simp[S]),if_neg (by simp[k3]),if_neg (by simp[k5]),if_neg (by simp[k9]),if_neg (by simp[I]),if_neg (by simp[U]),if_neg (by simp[ad])]):p:=h
theorem K_{p:Prop}(h:p:=by simp[execOp,resolve,invoke,builtin]):p:=h
theorem G_{p:Prop}(h:p:=by simp only[Rp];exact⟨#[],rfl,by simp[cC]⟩):p:=h
theorem R_{p:Prop}(h:p:=by have h0:=hp o.By;unfold lZ aB6 at b1;rw[i0,g0]at b1;simp only[pP,decide_false,Bool.or_self,sF,yH,decide_eq_false_iff_not]at b1;omega):p:=h
theorem T_{p:Prop}(h:p:=by simpa using b):p:=h
theorem U_{p:Prop}(h:p:=by simp[aM]):p:=h
theorem H_{p:Prop}(h:p:=by unfold Func.isWrapper;first|(rw[if_pos (by decide +kernel)];kernel_rfl)|(rw[if_neg (by decide +kernel)];exact⟨rfl,rfl⟩)):p:=h
theorem F_{p:Prop}(h:p:=by rw[BS,if_neg (by simp[O]),if_neg (by simp[S]),if_neg (by simp[k3]),if_neg (by simp[k5]),if_neg (by simp[k9]),if_pos I]):p:=h
theorem M_{p:Prop}(h:p:=by rw[aP];omega):p:=h
theorem P_{p:Prop}(h:p:=by have:=congrArg (List.map λp:Int×Int=>[Value.int .i64 p.1,Value.int .i64 p.2]) n3;rw[rI,rI]at this;exact this):p:=h
theorem I_{p:Prop}(h:p:=by simp at h;unfold maxLen;omega):p:=h
theorem J_{p:Prop}(h:p:=by simpa using t):p:=h
theorem W_{p:Prop}(h:p:=by intro j a h;omega):p:=h
theorem X_{p:Prop}(h:p:=by simpa using e):p:=h
theorem Y_{p:Prop}(h:p:=by rfl):p:=h
theorem Z_{p:Prop}(h:p:=by simpa using l):p:=h
theorem oo{p:Prop}(h:p:=by first|exact .inl rfl|exact .inr rfl):p:=h
theorem od{p:Prop}(h:p:=by simp only[FP];omega):p:=h
theorem og{p:Prop}(h:p:=by have:=nX (f:=NodeM.B) (l:=o.Path) (k:=4020) λx h=>I6 (a.path.2 x h);have:=a.path.1;omega):p:=h
theorem ot{p:Prop}(h:p:=by have:=nX (f:=SealM.B) (l:=o.Hist) (k:=1040) λx h=>I7 (a.hist.2 x h);have:=a.hist.1;omega):p:=h
theorem ou{p:Prop}(h:p:=by rintro r ⟨v,w',h',φ',m1,m2,m3,m4⟩;rw[cL]at m4;exact⟨v,w',h',φ',m1,ar.trans m2,m3,m4⟩):p:=h
theorem oh{p:Prop}(h:p:=by rintro r ⟨v,w',h',φ',m1,m2,m3,m4⟩;rw[cL]at m4;exact⟨v,w',h',φ',m1,ax.trans m2,m3,m4⟩):p:=h
theorem oe{p:Prop}(h:p:=by rw[h];rfl):p:=h
theorem ov{p:Prop}(h:p:=by simpa using a):p:=h
theorem ox{p:Prop}(h:p:=by simpa using c):p:=h
theorem oy{p:Prop}(h:p:=by show _<2305843009213693951;omega):p:=h
theorem oz{p:Prop}(h:p:=by refine q.all A (Q:=λx=>c.getD p 0<=x) λk J I=>?_;rcases j with h0|h0;omega;grind):p:=h
theorem da{p:Prop}(h:p:=by rw[n1,show min o.At l[n].At=l[n].At by omega,J.1,J.2,<-((aa l[n]).1 (eQ hn)).2]):p:=h
theorem dg{p:Prop}(h:p:=by simp[IntKind.wrap,IntKind.bits,IntKind.signed];omega):p:=h
theorem dt{p:Prop}(h:p:=by first|exact cN _|exact Kl _|assumption):p:=h
theorem du{p:Prop}(h:p:=by rw[BS,if_neg (by simp[O]),if_neg (by simp[S]),if_neg (by simp[k3]),if_pos k5]):p:=h
theorem dh{p:Prop}(h:p:=by have:=nX (f:=Id.B) (l:=o.Past) (k:=30) λx _=>Id.B_len x;have:=a.past.1;omega):p:=h
theorem dm{p:Prop}(h:p:=by simp[RP.five]):p:=h
theorem dn{p:Prop}(h:p:=by rw[a i q];exact h1):p:=h
theorem dp{p:Prop}(h:p:=by have:=nX (f:=BoxM.B) (l:=o.Boxes) (k:=40) λx _=>MJ x;have:=a.boxes.1;omega):p:=h
theorem dc{p:Prop}(h:p:=by have:=nX (f:=bN) (l:=o.Guards) (k:=10) λx _=>bX x;have:=a.guards.1;omega):p:=h
theorem db{p:Prop}(h:p:=by rw[wL];kernel_rfl):p:=h
theorem de{p:Prop}(h:p:=by simp only[cA,xH,forall_eq,VR,dF];rintro e ⟨b,_,rfl⟩ c V;exact⟨_,cA.1 V⟩):p:=h
theorem di{p:Prop}(h:p:=by simp[O]):p:=h
theorem dw{p:Prop}(h:p:=by have:=nX (f:=gJ) (l:=o.Refs) (k:=10) λx _=>iP x;have:=a.refs.1;omega):p:=h
theorem dx{p:Prop}(h:p:=by rw[aY (Ne.symm d.1),aY (Ne.symm d.2.1),aY (Ne.symm d.2.2.2)];exact t):p:=h
theorem d5{p:Prop}(h:p:=by decide +kernel):p:=h
theorem d6{p:Prop}(h:p:=by simpa using h2):p:=h
theorem d7{p:Prop}(h:p:=by rw[j];obtain⟨B,f⟩:=yK;simp[Op.equal,f,Op.equalIn,run_underlying l]):p:=h
theorem d8{p:Prop}(h:p:=by unfold rD;rw[dZ];have:=bX (o.Body.length:Int);have:=a.body.1;omega):p:=h
theorem d9{p:Prop}(h:p:=by rw[h1];rfl):p:=h
theorem so{p:Prop}(h:p:=by simp at e):p:=h
theorem sk{p:Prop}(h:p:=by simp at h;omega):p:=h
theorem sa{p:Prop}(h:p:=by simp[S]):p:=h
theorem sg{p:Prop}(h:p:=by simp[cC]):p:=h
theorem sr{p:Prop}(h:p:=by simp[k3]):p:=h
theorem sf{p:Prop}(h:p:=by simpa using j):p:=h
theorem sm{p:Prop}(h:p:=by rw[f g (by rw[t];rfl)];exact v):p:=h
theorem sc{p:Prop}(h:p:=by rw[if_neg (by omega)];simp[iG]):p:=h
theorem se{p:Prop}(h:p:=by rw[beq_eq_false_iff_ne];omega):p:=h
theorem si{p:Prop}(h:p:=by simp only[dZ];omega):p:=h
theorem sj{p:Prop}(h:p:=by simp[Instr.findKey,run_underlying b,h2]):p:=h
theorem sy{p:Prop}(h:p:=by rw[hij];exact h1):p:=h
theorem s6{p:Prop}(h:p:=by rw[eC];omega):p:=h
theorem s7{p:Prop}(h:p:=by simp[h1]):p:=h
theorem s8{p:Prop}(h:p:=by rw[Dq _ l i a];simp only[eB]):p:=h
theorem s9{p:Prop}(h:p:=by cases b<;>rfl):p:=h
theorem ko{p:Prop}(h:p:=by simp[k5]):p:=h
theorem ka{p:Prop}(h:p:=by rw[L];exact hH):p:=h
theorem kg{p:Prop}(h:p:=by rw[iG];exact n j v H):p:=h
theorem kr{p:Prop}(h:p:=by rw[p];exact h1):p:=h
theorem ku{p:Prop}(h:p:=by simp[Rp,goInt]):p:=h
theorem kh{p:Prop}(h:p:=by simpa using hj):p:=h
theorem kf{p:Prop}(h:p:=by rw[d]at *;simp at *;omega):p:=h
theorem km{p:Prop}(h:p:=by simp only[dZ,eC,vY];omega):p:=h
theorem kn{p:Prop}(h:p:=by unfold maxLen at hm;omega):p:=h
theorem kb{p:Prop}(h:p:=by unfold maxLen at X;omega):p:=h
theorem ke{p:Prop}(h:p:=by simpa using d):p:=h
theorem kj{p:Prop}(h:p:=by simpa using f):p:=h
theorem kv{p:Prop}(h:p:=by simpa using g):p:=h
theorem kw{p:Prop}(h:p:=by simpa using r):p:=h
theorem kx{p:Prop}(h:p:=by rcases b _ m with h|h|h<;>omega):p:=h
theorem ky{p:Prop}(h:p:=by simp only[xF,Bd,gL0 h,Id.A_def]):p:=h
theorem kz{p:Prop}(h:p:=by rw[aY (Ne.symm t)]):p:=h
theorem k0{p:Prop}(h:p:=by simp only[cL,dZ,sE,gQ]):p:=h
theorem k6{p:Prop}(h:p:=by rw[dZ];omega):p:=h
theorem ao{p:Prop}(h:p:=by intro j N h;omega):p:=h
theorem ar{p:Prop}(h:p:=by intro j d h;omega):p:=h
theorem au{p:Prop}(h:p:=by intro j m h;omega):p:=h
theorem am{p:Prop}(h:p:=by simp[G3]):p:=h
theorem an{p:Prop}(h:p:=by simp[k9]):p:=h
theorem ae{p:Prop}(h:p:=by have:=c.2.2.2.1;omega):p:=h
theorem ai{p:Prop}(h:p:=by rw[t,nG];exact(g _).2):p:=h
theorem aj{p:Prop}(h:p:=by rw[iQ,lO F H,hb];rfl):p:=h
theorem ax{p:Prop}(h:p:=by split<;>omega):p:=h
theorem ay{p:Prop}(h:p:=by simp[RP.five,e]):p:=h
theorem az{p:Prop}(h:p:=by simp[e]):p:=h
theorem go{p:Prop}(h:p:=by simp[mG8]):p:=h
theorem gu{p:Prop}(h:p:=by simp[Eo]):p:=h
theorem gf{p:Prop}(h:p:=by simp[d]):p:=h
abbrev E_:=@Option.some.injEq
abbrev B_:=List Int
abbrev V_:=List Nat
abbrev sW:=@List.getElem?_cons_zero
abbrev oX:=@List.getElem?_cons_succ
abbrev Ae:=@List.eq_nil_of_length_eq_zero
abbrev jC:=@List.cons_append
abbrev BT:=@List.getElem?_take
abbrev Hw:=@List.getElem?_drop
abbrev Hx:=@List.getElem?_set
abbrev Gp:=@Nat.succ_mul
abbrev cN:=@Nat.le_refl
abbrev uR:=@Nat.le_trans
abbrev CV:=@Nat.lt_of_lt_of_le
abbrev eD:=@Nat.lt_or_ge
abbrev sX:=@List.getElem?_eq_none
abbrev fG:=@List.map_cons
abbrev gE:=@List.getElem?_map
abbrev mG:=@Nat.add_zero
abbrev aGD:=@Bool.and_assoc
abbrev Ri:=@Array.getElem?_eq_getElem
abbrev jJ:=@Bool.false_eq_true
abbrev vY:=@List.length_drop
abbrev dZ:=@List.length_append
abbrev GV:=@Array.length_toList
abbrev Kg:=@List.drop_drop
abbrev yH:=@Bool.and_true
abbrev zK:=@List.flatten_cons
abbrev LB:=@List.drop_of_length_le
abbrev dM:=@List.nil_append
abbrev sE:=@List.length_cons
abbrev sY:=@Nat.add_assoc
abbrev EY:=@Array.toList_inj
abbrev jN:=@List.getElem?_eq_getElem
abbrev aGg:=@Nat.add_mul
abbrev Hz:=@Array.getElem?_eq_none
abbrev Kl:=@Nat.le_succ
abbrev cL:=@List.length_set
abbrev oD:=@List.all_eq_true
abbrev CW:=@List.foldl_cons
abbrev uP:=@List.map_nil
abbrev cS:=@List.mem_cons
abbrev aBI:=@Option.isSome_iff_exists
abbrev Mi:=@Option.getD_some
abbrev dF:=@List.mem_map
abbrev rI:=@List.map_map
abbrev aBS:=@Array.mapM_eq_mapM_toList
abbrev eC:=@List.length_take
abbrev Kd:=@List.mem_of_getElem?
abbrev mY:=@List.getElem?_append_left
abbrev EZ:=@Nat.mod_eq_of_lt
abbrev Mc:=@List.getElem?_append_right
abbrev Km:=@Nat.one_mul
abbrev EW:=@List.ext_getElem?
abbrev zM:=@Nat.mod_lt
abbrev sG:=@List.take_of_length_le
abbrev yG:=@List.set_cons_succ
abbrev aGH:=@List.take_length_add_append
abbrev X3:=@List.drop_length_add_append
abbrev eB:=@List.append_assoc
abbrev Mj:=@List.take_take
abbrev Tb:=@Nat.le_zero
abbrev Gn:=@List.size_toArray
abbrev Kh:=@List.mem_flatten
abbrev QF:=@List.getElem?_of_mem
abbrev eQ:=@List.getElem_mem
abbrev H2:=@Nat.mul_le_mul_right
abbrev aGK:=@List.mem_or_eq_of_mem_set
abbrev cG:=@List.mem_append
abbrev C8:=@List.mem_of_mem_take
abbrev QG:=@List.mem_of_mem_drop
abbrev aBO:=@List.drop_succ_cons
abbrev QI:=@List.take_succ_cons
abbrev TV:=@Array.toList_append
abbrev YL:=@List.take_left
abbrev H3:=@List.length_pos_iff
abbrev gQ:=@List.length_nil
abbrev pQ:=@Nat.zero_add
abbrev zJ:=@Bool.and_eq_true
abbrev YG:=@Array.empty_append
abbrev Kf:=@List.flatten_append
abbrev vQ:=@List.nodup_append
abbrev QH:=@List.range_succ
abbrev Mk:=@List.range_zero
abbrev iX:=@Option.map_some
abbrev H6:=@Option.bind_some
abbrev rH:=@List.getD_eq_getElem?_getD
abbrev BU:=@List.nodup_cons
abbrev X8:=@List.append_eq_nil_iff
abbrev pR:=@Nat.zero_le
abbrev QA:=@Array.eq_empty_of_size_eq_zero
abbrev YD:=@Array.toArray_toList
abbrev mF:=@Bool.true_and
abbrev bZ:=@List.map_append
abbrev QO:=@Nat.sub_zero
abbrev aGL:=@List.all_nil
abbrev TW:=@List.replicate_succ
abbrev QE:=@List.length_replicate
abbrev YH:=@List.map_replicate
abbrev X5:=@Array.getElem?_append_left
abbrev YA:=@Array.getElem?_modify
abbrev B9:=@List.flatten_nil
abbrev X7:=@List.eraseIdx_cons_succ
abbrev gR:=@List.mem_filter
abbrev aP:=@List.length_map
abbrev sV:=@List.getElem?_eq_some_iff
abbrev YM:=@List.eq_of_mem_replicate
abbrev aBP:=@List.replicate_zero
abbrev jO:=@List.append_nil
abbrev LC:=@List.take_append_drop
abbrev cA:=@List.mem_singleton
abbrev TY:=@List.take_left'
abbrev Kc:=@List.drop_eq_getElem_cons
abbrev Bb:=@Nat.mul_one
abbrev TZ:=@List.drop_zero
abbrev TR:=@Array.getD_eq_getD_getElem?
abbrev LD:=@List.map_congr_left
abbrev H7:=@List.mem_flatMap
abbrev uM:=@List.mem_range
abbrev aGI:=@Array.getElem?_eq_some_iff
abbrev CX:=@List.any_eq_true
abbrev Ec:=@Bool.or_eq_true
abbrev lI:=@Bool.not_true
abbrev EX:=@Bool.not_eq_true'
abbrev JW:=@List.contains_eq_mem
abbrev X9:=@Option.map_eq_some_iff
abbrev GU:=@List.mem_cons_of_mem
abbrev aBJ:=@List.mem_filterMap
abbrev CT:=@Bool.eq_iff_iff
abbrev aGM:=@List.isEmpty_iff
abbrev TS:=@List.eq_nil_iff_forall_not_mem
abbrev QB:=@Classical.byContradiction
abbrev EV:=@List.mem_cons_self
abbrev C9:=@List.getElem_inj
abbrev Rg:=@List.length_eraseIdx_of_lt
abbrev Mg:=@List.mem_of_find?_eq_some
abbrev aGO:=@List.find?_some
abbrev Eb:=@List.find?_eq_none
abbrev aBT:=@List.nodup_range
abbrev aBU:=@Array.size_setIfInBounds
abbrev H5:=@List.pairwise_cons
abbrev fI:=@Eq.trans
abbrev uQ:=@List.take_zero
abbrev aBY:=@Bool.and_self
abbrev sF:=@Bool.not_false
abbrev xD:=@Option.map_none
abbrev nI:=@Int.toNat_natCast
abbrev QK:=@List.length_range
abbrev EB:=@Bool.or_false
abbrev Ed:=@Bool.or_true
abbrev EI:=@Bool.true_or
abbrev EH:=@Bool.false_or
abbrev lR:=@Bool.false_and
abbrev Ea:=@Bool.and_false
abbrev YB:=@List.Perm.append_left
abbrev aBQ:=@List.getElem?_range
abbrev Ad:=@List.findIdx?_eq_some_iff_getElem
abbrev YP:=@Nat.testBit_or
abbrev aBH:=@List.perm_ext_iff_of_nodup
abbrev Ki:=@List.ext_getElem
abbrev TX:=@Nat.or_lt_two_pow
abbrev aBW:=@Nat.and_le_left
abbrev Md:=@List.findIdx?_eq_none_iff
abbrev CU:=@List.getElem_of_mem
abbrev aBK:=@Nat.zero_testBit
abbrev Gl:=@Nat.pow_le_pow_right
abbrev pP:=@List.not_mem_nil
abbrev bP:=@Nat.lt_irrefl
abbrev vP:=@Bool.not_eq_eq_eq_not
abbrev QM:=@Nat.pow_succ
abbrev IA:=@Nat.pow_mul
abbrev aBX:=@Nat.pow_add
abbrev CY:=@Nat.mul_mod
abbrev Kn:=@Nat.pow_mod
abbrev Mn:=@Nat.mod_mod
abbrev aBZ:=@Nat.mul_assoc
abbrev QP:=@Nat.mul_comm
abbrev QJ:=@Nat.lt_of_le_of_lt
abbrev Ml:=@Nat.div_le_self
abbrev Me:=@Nat.Coprime.mul_right
abbrev QL:=@Nat.div_add_mod
abbrev Gm:=@List.filter_eq_self
abbrev Rh:=@List.nodup_iff_pairwise_ne
abbrev Mh:=@List.pairwise_map
abbrev TU:=@List.Pairwise.imp_of_mem
abbrev aGN:=@Nat.mul_zero
abbrev YI:=@BitVec.toNat_and
abbrev aGE:=@Nat.and_two_pow_sub_one_eq_mod
abbrev Tc:=@Nat.add_mod
abbrev aJh:=@Nat.mul_le_mul
abbrev TT:=@List.mem_take_iff_getElem
abbrev JX:=@Nat.eq_zero_or_pos
abbrev aGF:=@List.getElem!_eq_getElem?_getD
abbrev H4:=@List.mergeSort_perm
abbrev lB:=@List.take_succ_eq_append_getElem
abbrev dE:=@List.take_length
abbrev Hy:=@List.foldl_append
abbrev Kj:=@Nat.min_eq_left
abbrev QN:=@List.map_take
abbrev aC0:=@List.map_drop
abbrev zL:=@List.getElem_map
abbrev Mm:=@List.nodup_nil
abbrev YJ:=@List.perm_middle
abbrev Kk:=@List.foldl_nil
abbrev Ke:=@List.getLast?_concat
abbrev YK:=@List.all_append
abbrev H9:=@Nat.le_of_lt
abbrev QQ:=@Nat.lt_trans
abbrev YF:=@Nat.mul_le_mul_left
abbrev Ta:=@Nat.ne_of_gt
abbrev aBG:=@List.find?_eq_some_iff_getElem
abbrev aBN:=@Nat.pow_lt_pow_right
abbrev aGC:=@List.length_zipWith
abbrev aJg:=@List.getElem_zipWith
abbrev aBL:=@List.set_append_right
abbrev YN:=@Nat.sub_self
abbrev Ba:=@List.map_set
abbrev aGB:=@List.set_eq_take_append_cons_drop
abbrev Rf:=@List.take_append_of_le_length
abbrev aGG:=@List.drop_append_of_le_length
abbrev H8:=@Nat.lt_of_not_le
abbrev YO:=@Nat.le_of_not_lt
abbrev QD:=@List.pairwise_iff_getElem
abbrev aBR:=@List.idxOf_lt_length_of_mem
abbrev Mf:=@List.filter_append
abbrev YC:=@List.getElem_set_self
abbrev GT:=@List.length_singleton
abbrev YE:=@Bool.or_eq_false_iff
abbrev aBM:=@Bool.and_eq_false_iff
abbrev aGJ:=@Nat.lt_trichotomy
abbrev X4:=@List.attach_map_subtype_val
abbrev aBV:=@List.take_append_getElem
abbrev Ko:=@Nat.beq_eq
abbrev X6:=@Int.tmod_eq_emod_of_nonneg
abbrev C_:=List Value
inductive AV where
 |v (x:Value)|ls (k:Nat) (es:List (List AV))|ag (cs:List AV)|own (i:Nat)|ptr (i off:Nat)|elt (i k j off:Nat)|vw (i k lo n:Nat)|mp (i:Nat)|yl (i:Nat)|bm (f k:Nat) (cs:List AV)|rp (cs:List AV)|cl (f:Nat) (caps:List AV)|tup (vs:List AV)|any
 deriving Inhabited
abbrev iv(n:Int):AV:=.v (.int .i64 n)
abbrev uv(n:Nat):AV:=.v (.int .u64 (n:Int))
abbrev O_:=List AV
abbrev N_:=List (List AV)
abbrev L_:=Nat->Option (List AV)
def aX:AV->Bool|.v (.agg _)=>false|.v (.tuple _)=>false|.v _=>true|.ls _ _=>true|_=>false
def gS:AV->Bool|.v (.agg _)=>false|.v (.tuple _)=>false|.v _=>true|.ls _ _=>true|.own _=>true|.ptr _ _=>true|.elt _ _ _ _=>true|.vw _ _ _ _=>true|.mp _=>true|.yl _=>true|.bm _ _ _=>true|.cl _ _=>true|.rp _=>true|_=>false
abbrev GH:=Nat->Option (Array Value)
def oY(h:GH)(b o:Nat):Option Value:=(h b).bind (·[o]?)
mutual
def oB(h:GH):AV->Value->Prop|.v x,u=>u=x|.ls k a,u=>∃A c,u=.slice A a.length c/\a.length<=c/\c<=maxLen/\(a=[]\/∃b o,A=some ⟨b,o,none⟩/\kF h b k a o)|.ag e,u=>∃d:Array Value,u=.agg d/\cK h e d.toList|.any,_=>True|_,_=>False
def kF(h:GH)(b k:Nat):N_->Nat->Prop|[],_=>True|e::a,o=>e.length=k/\mR h b e o/\kF h b k a (o+k)
def mR(h:GH)(b:Nat):O_->Nat->Prop|[],_=>True|c::a,o=>(∃u,aX c=true/\oY h b o=some u/\oB h c u)/\mR h b a (o+1)
def cK(h:GH):O_->C_->Prop|[],b=>b=[]|c::d,b=>∃u a,b=u::a/\oB h c u/\cK h d a
end
mutual
def Rp(h:GH)(φ:Nat->Value)(n:Nat):AV->Value->Prop|.v x,u=>u=x|.ls k r,u=>oB h (.ls k r) u|.ag p,u=>∃a:Array Value,u=.agg a/\cC h φ n p a.toList|.own i,u=>i<n/\u=φ i/\∃A l c,u=.slice A l c|.ptr i e,u=>i<n/\∃g,φ i=.pointer (some ⟨g,0,none⟩)/\u=.pointer (some ⟨g,e,none⟩)|.elt i k j e,u=>i<n/\∃g l c,φ i=.slice (some ⟨g,0,none⟩) l c/\u=.pointer (some ⟨g,j*k+e,none⟩)|.mp i,u=>i<n/\u=φ i/\∃g,u=.map (some g)|.yl i,u=>i<n/\u=φ i/\∃l,u=.func (.yield l) #[] #[]|.bm f k d,u=>∃a:Array Value,u=.func (.func f) (a.toList.take k).toArray (a.toList.drop k).toArray/\cC h φ n d a.toList|.vw i k lo m,u=>i<n/\∃A c,u=.slice A m c/\m<=c/\c<=maxLen/\(m=0\/∃g l s,φ i=.slice (some ⟨g,0,none⟩) l s/\A=some ⟨g,lo*k,none⟩/\lo+m<=l)|.rp p,u=>∃b o,u=.pointer (some ⟨b,o,none⟩)/\mR h b p o|.cl f d,u=>∃a:Array Value,u=.func (.func f) #[] a/\cC h φ n d a.toList|.tup q,u=>∃a:Array Value,u=.tuple a/\cC h φ n q a.toList|.any,_=>True
def cC(h:GH)(φ:Nat->Value)(n:Nat):O_->C_->Prop|[],b=>b=[]|c::d,b=>∃u a,b=u::a/\Rp h φ n c u/\cC h φ n d a
end
def CA(h h':GH):Prop:=∀b a,h b=some a->h' b=some a
def CA.refl(h:GH):CA h h:=λ_ _ e=>e
def CA.trans{a b c:GH}(h:CA a b)(k:CA b c):CA a c:=λx d e=>k x d (h x d e)
def CA.cell{h h':GH}(g:CA h h'){b o:Nat}{u:Value}(e:oY h b o=some u):oY h' b o=some u:=by
 unfold oY at *
 cases a:h b with
 |none=>simp[a]at e|some c=>rw[a]at e;rw[g b c a];exact e
mutual
def oB.mono{h h':GH}(g:CA h h'):∀{x:AV}{u:Value},oB h x u->oB h' x u
 |.v _,_,e=>by simpa[oB]using e|.ls k j,u,e=>by
  simp only[oB]at e⊢;obtain⟨A,c,h1,h2,h3,i⟩:=e;exact⟨A,c,h1,h2,h3,i.imp id λ⟨b,o,f,d⟩=>⟨b,o,f,kF.mono g d⟩⟩
 |.ag l,u,e=>by
  simp only[oB]at e⊢;obtain⟨a,h1,h2⟩:=e;exact⟨a,h1,cK.mono g h2⟩
 |.any,_,_=>by simp[oB]|.own _,_,e=>by simp[oB]at e|.ptr _ _,_,e=>by simp[oB]at e|.elt _ _ _ _,_,e=>by simp[oB]at e|.vw _ _ _ _,_,e=>by simp[oB]at e|.mp _,_,e=>by simp[oB]at e|.yl _,_,e=>by simp[oB]at e|.bm _ _ _,_,e=>by simp[oB]at e|.rp _,_,e=>by simp[oB]at e|.cl _ _,_,e=>by simp[oB]at e|.tup _,_,e=>by simp[oB]at e
def kF.mono{h h':GH}(g:CA h h'){b k:Nat}:∀{es:N_}{o:Nat},kF h b k es o->kF h' b k es o|[],_,_=>by simp[kF]|e::es,o,a=>by simp only[kF]at a⊢;exact⟨a.1,mR.mono g a.2.1,kF.mono g a.2.2⟩
def mR.mono{h h':GH}(g:CA h h'){b:Nat}:∀{cs:O_}{o:Nat},mR h b cs o->mR h' b cs o|[],_,_=>by simp[mR]|c::cs,o,a=>by simp only[mR]at a⊢;obtain⟨⟨u,h0,h1,h2⟩,h3⟩:=a;exact⟨⟨u,h0,g.cell h1,oB.mono g h2⟩,mR.mono g h3⟩
def cK.mono{h h':GH}(g:CA h h'):∀{cs:O_}{us:C_},cK h cs us->cK h' cs us|[],_,e=>by simpa[cK]using e|c::cs,us,b=>by simp only[cK]at b⊢;obtain⟨u,a,h1,h2,h3⟩:=b;exact⟨u,a,h1,oB.mono g h2,cK.mono g h3⟩
end
mutual
def Rp.mono{h h':GH}{φ d:Nat->Value}{n m:Nat}(g:CA h h')(l:n<=m)(a:∀i,i<n->d i=φ i):∀{x:AV}{u:Value},Rp h φ n x u->Rp h' d m x u
 |.v _,_,e=>by simpa[Rp]using e|.ls k r,u,e=>by simp only[Rp]at e⊢;exact oB.mono g e|.ag p,u,e=>by
  simp only[Rp]at e⊢;obtain⟨c,h1,h2⟩:=e;exact⟨c,h1,cC.mono g l a h2⟩
 |.any,_,_=>by simp[Rp]|.own i,_,e=>by simp only[Rp]at e⊢;exact⟨o_,by rw[a i e.1];exact e.2.1,e.2.2⟩|.ptr i _,_,e=>by simp only[Rp]at e⊢;exact⟨o_,by rw[a i e.1];exact e.2⟩|.elt i _ _ _,_,e=>by simp only[Rp]at e⊢;exact⟨o_,by rw[a i e.1];exact e.2⟩|.vw i _ _ _,_,e=>by simp only[Rp]at e⊢;exact⟨o_,by rw[a i e.1];exact e.2⟩|.mp i,_,e=>by simp only[Rp]at e⊢;exact⟨o_,by rw[a i e.1];exact e.2.1,e.2.2⟩|.yl i,_,e=>by simp only[Rp]at e⊢;exact⟨o_,by rw[a i e.1];exact e.2.1,e.2.2⟩|.bm f k j,u,e=>by
  simp only[Rp]at e⊢;obtain⟨c,h1,h2⟩:=e;exact⟨c,h1,cC.mono g l a h2⟩
 |.rp p,u,e=>by
  simp only[Rp]at e⊢;obtain⟨b,o,h1,h2⟩:=e;exact⟨b,o,h1,mR.mono g h2⟩
 |.cl f j,u,e=>by
  simp only[Rp]at e⊢;obtain⟨c,h1,h2⟩:=e;exact⟨c,h1,cC.mono g l a h2⟩
 |.tup q,u,e=>by simp only[Rp]at e⊢;obtain⟨c,h1,h2⟩:=e;exact⟨c,h1,cC.mono g l a h2⟩
def cC.mono{h h':GH}{φ a:Nat->Value}{n d:Nat}(g:CA h h')(j:n<=d)(f:∀i,i<n->a i=φ i):∀{cs:O_}{us:C_},cC h φ n cs us->cC h' a d cs us|[],_,e=>by simpa[cC]using e|c::cs,us,k=>by simp only[cC]at k⊢;obtain⟨u,b,h1,h2,h3⟩:=k;exact⟨u,b,h1,Rp.mono g j f h2,cC.mono g j f h3⟩
end
mutual
def oB.to{h:GH}{φ:Nat->Value}{n:Nat}:∀{x:AV}{u:Value},oB h x u->Rp h φ n x u
 |.v _,_,e=>by simpa[Rp,oB]using e|.ls k b,u,e=>by simp only[Rp];exact e|.ag c,u,e=>by
  simp only[oB]at e;simp only[Rp];obtain⟨a,h1,h2⟩:=e;exact⟨a,h1,cK.to h2⟩
 |.any,_,_=>by simp[Rp]|.own _,_,e=>by simp[oB]at e|.ptr _ _,_,e=>by simp[oB]at e|.elt _ _ _ _,_,e=>by simp[oB]at e|.vw _ _ _ _,_,e=>by simp[oB]at e|.mp _,_,e=>by simp[oB]at e|.yl _,_,e=>by simp[oB]at e|.bm _ _ _,_,e=>by simp[oB]at e|.rp _,_,e=>by simp[oB]at e|.cl _ _,_,e=>by simp[oB]at e|.tup _,_,e=>by simp[oB]at e
def cK.to{h:GH}{φ:Nat->Value}{n:Nat}:∀{cs:O_}{us:C_},cK h cs us->cC h φ n cs us|[],_,e=>by simpa[cK,cC]using e|c::cs,us,b=>by simp only[cK]at b;simp only[cC];obtain⟨u,a,h1,h2,h3⟩:=b;exact⟨u,a,h1,oB.to h2,cK.to h3⟩
end
def cC.length{h:GH}{φ:Nat->Value}{n:Nat}:∀{cs:O_}{us:C_},cC h φ n cs us->cs.length=us.length|[],us,e=>by simp only[cC]at e;subst e;rfl|c::cs,us,e=>by simp only[cC]at e;obtain⟨u,a,rfl,_,h⟩:=e;simp[h.length]
def cK.length{h:GH}:∀{cs:O_}{us:C_},cK h cs us->cs.length=us.length|[],us,e=>by simp only[cK]at e;subst e;rfl|c::cs,us,e=>by simp only[cK]at e;obtain⟨u,a,rfl,_,h⟩:=e;simp[h.length]
def cC.get{h:GH}{φ:Nat->Value}{n:Nat}:∀{cs:O_}{us:C_},cC h φ n cs us->∀{i:Nat}{c:AV},cs[i]?=some c->∃u,us[i]?=some u/\Rp h φ n c u
 |[],us,e,i,c,a=>by simp at a
 |d::cs,us,e,i,c,a=>by
  simp only[cC]at e;obtain⟨u,b,rfl,h1,h2⟩:=e
  cases i with
  |zero=>simp only[sW,E_]at a;subst a;exact⟨u,s_,h1⟩
  |succ i=>simp only[oX]at a⊢;exact h2.get a
def cC.mk{h:GH}{φ:Nat->Value}{n:Nat}:∀{cs:O_}{us:C_},cs.length=us.length->(∀(i:Nat)(c:AV)(u:Value),cs[i]?=some c->us[i]?=some u->Rp h φ n c u)->cC h φ n cs us|[],us,e,_=>by simp only[cC];exact Ae (by simpa using e.symm)|d::cs,[],e,_=>by simp at e|d::cs,u::us,e,a=>by simp only[cC];exact⟨u,us,rfl,a 0 d u s_ s_,cC.mk X_ λi c x f b=>a (i+1) c x kj T_⟩
def cC.app{h:GH}{φ:Nat->Value}{n:Nat}{cs ds:O_}{us vs:C_}(a:cC h φ n cs us)(b:cC h φ n ds vs):cC h φ n (cs++ds) (us++vs):=by
 induction cs generalizing us with
 |nil=>simp only[cC]at a;subst a;simpa using b|cons c cs ih=>
  grind[cC]
def cC.take{h:GH}{φ:Nat->Value}{n:Nat}{cs:O_}{us:C_}(a:cC h φ n cs us)(m:Nat):cC h φ n (cs.take m) (us.take m):=
 cC.mk (by simp[a.length]) λi c u b d=>by rw[BT]at b d;split at b;rw[if_pos (by assumption)]at d;obtain⟨e,h1,h2⟩:=a.get b;simp_all;simp at b
def cC.drop{h:GH}{φ:Nat->Value}{n:Nat}{cs:O_}{us:C_}(a:cC h φ n cs us)(m:Nat):cC h φ n (cs.drop m) (us.drop m):=
 cC.mk (by simp[a.length]) λi c u b d=>by rw[Hw]at b d;obtain⟨e,h1,h2⟩:=a.get b;simp_all
def cC.set{h:GH}{φ:Nat->Value}{n:Nat}{cs:O_}{us:C_}(a:cC h φ n cs us){m:Nat}{c:AV}{u:Value}(k:Rp h φ n c u):cC h φ n (cs.set m c) (us.set m u):=
 cC.mk (by simp[a.length]) λi d x b e=>by have j:=a.length;rw[Hx]at b e;by_cases f:m=i;simp_all;simp only[f,if_false]at b e;obtain⟨g,h1,h2⟩:=a.get b;simp_all
def cK.get{h:GH}:∀{cs:O_}{us:C_},cK h cs us->∀{i:Nat}{c:AV},cs[i]?=some c->∃u,us[i]?=some u/\oB h c u
 |[],us,e,i,c,a=>by simp at a
 |d::cs,us,e,i,c,a=>by
  simp only[cK]at e;obtain⟨u,b,rfl,h1,h2⟩:=e
  cases i with
  |zero=>simp only[sW,E_]at a;subst a;exact⟨u,s_,h1⟩
  |succ i=>simp only[oX]at a⊢;exact h2.get a
def cK.mk{h:GH}:∀{cs:O_}{us:C_},cs.length=us.length->(∀(i:Nat)(c:AV)(u:Value),cs[i]?=some c->us[i]?=some u->oB h c u)->cK h cs us|[],us,e,_=>by simp only[cK];exact Ae (by simpa using e.symm)|d::cs,[],e,_=>by simp at e|d::cs,u::us,e,a=>by simp only[cK];exact⟨u,us,rfl,a 0 d u s_ s_,cK.mk X_ λi c x f b=>a (i+1) c x kj T_⟩
def mR.get{h:GH}{b:Nat}:∀{cs:O_}{o:Nat},mR h b cs o->∀{i:Nat}{c:AV},cs[i]?=some c->∃u,aX c=true/\oY h b (o+i)=some u/\oB h c u
 |[],_,_,i,c,f=>by simp at f
 |d::cs,o,e,i,c,f=>by
  simp only[mR]at e;obtain⟨⟨u,j,h0,h1⟩,h2⟩:=e
  cases i with
  |zero=>simp only[sW,E_]at f;subst f;exact⟨u,j,h0,h1⟩
  |succ i=>simp only[oX]at f;obtain⟨g,k,a,b⟩:=h2.get f;exact⟨g,k,by rw[<-a];congr 1;omega,b⟩
def mR.mk{h:GH}{b:Nat}:∀{cs:O_}{o:Nat},(∀(i:Nat)(c:AV),cs[i]?=some c->∃u,aX c=true/\oY h b (o+i)=some u/\oB h c u)->mR h b cs o|[],_,_=>by simp[mR]|d::cs,o,a=>by simp only[mR];exact⟨a 0 d s_,mR.mk λi c e=>by obtain⟨u,h0,h1,h2⟩:=a (i+1) c X_;exact⟨u,h0,by rw[<-h1];congr 1;omega,h2⟩⟩
def mR.drop{h:GH}{b:Nat}{cs:O_}{o:Nat}(a:mR h b cs o)(n:Nat):mR h b (cs.drop n) (o+n):=
 mR.mk λi c d=>by rw[Hw]at d;obtain⟨u,h0,h1,h2⟩:=a.get d;grind
def kF.get{h:GH}{b k:Nat}:∀{es:N_}{o:Nat},kF h b k es o->∀{j:Nat}{e:O_},es[j]?=some e->e.length=k/\mR h b e (o+j*k)
 |[],_,_,j,e,a=>by simp at a
 |d::es,o,c,j,e,a=>by
  simp only[kF]at c
  cases j with
  |zero=>simp only[sW,E_]at a;subst a;exact⟨c.1,by simpa using c.2.1⟩
  |succ j=>simp only[oX]at a;obtain⟨h1,h2⟩:=c.2.2.get a;exact⟨h1,by rw[show o+(j+1)*k=o+k+j*k from by rw[Gp];omega];exact h2⟩
def kF.mk{h:GH}{b k:Nat}:∀{es:N_}{o:Nat},(∀(j:Nat)(e:O_),es[j]?=some e->e.length=k/\mR h b e (o+j*k))->kF h b k es o|[],_,_=>by simp[kF]|d::es,o,a=>by simp only[kF];obtain⟨h1,h2⟩:=a 0 d s_;exact⟨h1,d6,kF.mk λj e f=>by obtain⟨h3,c⟩:=a (j+1) e kj;exact⟨h3,by rw[show o+(j+1)*k=o+k+j*k from by rw[Gp];omega]at c;exact c⟩⟩
inductive AObj where
 |box (cs:List AV)|arr (k:Nat) (es:List (List AV))|arf (k:Nat) (es:List (List AV))|map (ag:Bool) (ks:List (List Value)) (vs:List AV) (bs:List Nat) (cl:Nat)|lp (r:Loop) (s:List (Nat×AV))|mit (m:Option Nat) (since:Nat) (aAD:List Nat) (st:Nat)
 deriving Inhabited
abbrev aK:=List (Option AObj)
def kI:Value->Option Nat|.pointer (some a)=>some a.block|.slice (some a) _ (_+1)=>some a.block|.map (some g)=>some g|.func (.yield l) _ _=>some l|_=>none
def iY(ag:Bool)(xs:C_):Value:=if ag then .agg xs.toArray else xs.getD 0 undef
def uF (h:GH) (φ:Nat->Value) (n:Nat) (w:World) (i:Nat):AObj->Prop
 |.box v=>∃(g:Nat)(us:Array Value)(E:TypeId),φ i=.pointer (some ⟨g,0,none⟩)/\w.heap[g]?=some (.cells us E (0,0))/\h g=none/\cC h φ n v us.toList| .arr k d=>(∀e∈d,e.length=k/\∀c∈e,aX c=true)/\((∃A,φ i=.slice A 0 0/\d=[]) \/
   ∃(g c:Nat)(a:Array Value)(E:TypeId),φ i=.slice (some ⟨g,0,none⟩) d.length (c+1)/\w.heap[g]?=some (.cells a E (0,0))/\d.length<=c+1/\c+1<=maxLen/\a.size=(c+1)*k/\h g=none /\
    cK h d.flatten (a.toList.take (d.length*k)))
 | .arf k d=>(∀e∈d,e.length=k/\∀c∈e,gS c=true)/\((∃A,φ i=.slice A 0 0/\d=[]) \/
   ∃(g c:Nat)(a:Array Value)(E:TypeId),φ i=.slice (some ⟨g,0,none⟩) d.length (c+1)/\w.heap[g]?=some (.cells a E (0,0))/\d.length<=c+1/\c+1<=maxLen/\a.size=(c+1)*k/\h g=none /\
    cC h φ n d.flatten (a.toList.take (d.length*k)))
 |.lp r s=>∃l:Nat,φ i=.func (.yield l) #[] #[]/\w.heap[l]?=some (.loop r)/\h l=none/\(∀i x y,(i,x)∈s->(i,y)∈s->x=y)/\∀p∈s,Rp h φ n p.2 (r.tmps.getD p.1 undef)| .mit m f aAD t=>∃(g:Nat)(o:Option Nat),φ i=.pointer (some ⟨g,0,none⟩)/\w.heap[g]?=some (.mapIter o f aAD.toArray t)/\h g=none /\
   (match m with|none=>o=none|some j=>∃b,o=some b/\j<n/\φ j=.map (some b))
 | .map B u q bs z=>∃(g:Nat)(ens:Array MapEntry),φ i=.map (some g)/\w.heap[g]?=some (.map ens z)/\h g=none /\
   ens.toList.map (·.key)=u.map (iY B)/\ens.toList.map (·.born)=bs/\cC h φ n q (ens.toList.map (·.val))
structure Inv(h:GH)(φ:Nat->Value)(w:World)(T:aK):Prop where
 gh:∀b cs,h b=some cs->∃E fr,w.heap[b]?=some (.cells cs E fr)
 obj:∀i o,T[i]?=some (some o)->uF h φ T.length w i o
 dis:∀i j oi oj b,T[i]?=some (some oi)->T[j]?=some (some oj)->kI (φ i)=some b->kI (φ j)=some b->i=j
structure Evo(h:GH)(φ:Nat->Value)(T:aK)(w:World)(h':GH)(φ':Nat->Value)(T':aK)(w':World):Prop where
 os:w'.os=w.os
 tape:w'.tape=w.tape
 output:w'.output=w.output
 size:w.heap.size<=w'.heap.size
 frame:∀b,b<w.heap.size->(∀i o,T[i]?=some (some o)->kI (φ i)≠some b)->w'.heap[b]?=w.heap[b]?
 le:CA h h'
 gfr:∀b cs,h' b=some cs->h b=some cs\/w.heap.size<=b\/∃i o,T[i]?=some (some o)/\kI (φ i)=some b
 phi:∀i,i<T.length->φ' i=φ i
 org:∀i o b,T'[i]?=some (some o)->kI (φ' i)=some b->w.heap.size<=b\/∃j oj,T[j]?=some (some oj)/\kI (φ j)=some b
 len:T.length<=T'.length
 drawn:w.drawn<=w'.drawn
def Evo.refl{h:GH}{φ:Nat->Value}{T:aK}{w:World}:Evo h φ T w h φ T w :=
 ⟨rfl,rfl,rfl,cN _,λ_ _ _=>rfl,CA.refl h,λ_ _ e=>.inl e,λ_ _=>rfl,λi o b a c=>.inr ⟨i,o,a,c⟩,cN _,cN _⟩
def Evo.trans{h0 h1 h2:GH}{φ0 e d:Nat->Value}{T0 q T2:aK}{w0 w1 w2:World}(a:Evo h0 φ0 T0 w0 h1 e q w1)(b:Evo h1 e q w1 h2 d T2 w2):
 Evo h0 φ0 T0 w0 h2 d T2 w2 where
 os:=b.os.trans a.os
 tape:=b.tape.trans a.tape
 output:=b.output.trans a.output
 size:=uR a.size b.size
 frame:=λg l r=>by
  rw[b.frame g (CV l a.size) (λi o c k=>?_),a.frame g l r];rcases a.org i o g c k with h|⟨j,m,n,f⟩
  omega;simp_all
 le:=a.le.trans b.le
 gfr:=λg p l=>by
  rcases b.gfr g p l with h|h|⟨i,o,c,k⟩
  exact a.gfr g p h;exact .inr (.inl (uR a.size h));exact .inr (a.org i o g c k)
 phi:=λi c=>(b.phi i (CV c a.len)).trans (a.phi i c)
 org:=λi o g c k=>by
  rcases b.org i o g c k with h|⟨j,m,n,f⟩
  exact .inl (uR a.size h);exact a.org j m g n f
 len:=uR a.len b.len
 drawn:=uR a.drawn b.drawn
def tU(G:L_)(h:GH):Prop:=∀g a,G g=some a->mR h g a 0
def tU.mono{G:L_}{h h':GH}(a:tU G h)(g:CA h h'):tU G h':=λi b e=>(a i b e).mono g
def CS(h:GH)(φ:Nat->Value)(T:aK)(w:World)(post:AV->aK->Prop)(v:Value)(w':World):Prop :=
 ∃r b c a,post r b/\Evo h φ T w c a b w'/\Inv c a w' b/\Rp c a b.length r v
def aA(P:Program)(G:L_)(f:FuncId)(args:O_)(T:aK)(post:AV->aK->Prop):Prop :=
 ∀(h:GH)(φ:Nat->Value)(w:World)(a:Array Value),tU G h->Inv h φ w T->cC h φ T.length args a.toList ->
  ((callFunc f a).run P w=.ok (.enter f a) w/\Calls P f a w (λe b=>∃v,e=.returned v/\CS h φ T w post v b)) \/
  (∃v b,(callFunc f a).run P w=.ok (.value v) b/\CS h φ T w post v b)
def DA(P:Program)(G:L_)(i:Nat)(args:O_)(T:aK)(post:AV->aK->Prop):Prop :=
 ∀ (h:GH) (φ:Nat->Value) (w:World) (a:Array Value) (l:Nat),tU G h->Inv h φ w T->cC h φ T.length args a.toList->φ i=.func (.yield l) #[] #[] ->
  ∃(f:FuncId)(tmps:Array Value)(assign body:Code),(Instr.yield l a).run P w=.ok (.round l f tmps assign body) w /\
   RoundIn Fence.wide 0 P l f tmps assign body w (λe b=>∃v,e=.returned v/\CS h φ T w post v b)
def CS.mono{h:GH}{φ:Nat->Value}{T:aK}{w:World}{p q:AV->aK->Prop}{v:Value}{w':World}(a:CS h φ T w p v w')(d:∀r b,p r b->q r b):CS h φ T w q v w' :=
 let⟨r,b,e,c,g,f⟩:=a
 ⟨r,b,e,c,d _ _ g,f⟩
def DA.mono{P:Program}{G:L_}{i:Nat}{args:O_}{T:aK}{p q:AV->aK->Prop}(a:DA P G i args T p)(e:∀r j,p r j->q r j):DA P G i args T q :=
 λh k w b l n hI o m=>
  let⟨f,c,g,d,h1,h2⟩:=a h k w b l n hI o m
  ⟨f,c,g,d,h1,h2.mono λ_ _ ⟨v,t,s⟩=>⟨v,t,s.mono e⟩⟩
def aA.mono{P:Program}{G:L_}{f:FuncId}{args:O_}{T:aK}{p q:AV->aK->Prop}(a:aA P G f args T p)(d:∀r g,p r g->q r g):
 aA P G f args T q:=λh i w b k hI l=>
 (a h i w b k hI l).imp (λ⟨e,c⟩=>⟨e,c.mono λ_ _ ⟨v,n,m⟩=>⟨v,n,m.mono d⟩⟩) (λ⟨v,j,e,c⟩=>⟨v,j,e,c.mono d⟩)
inductive LK where
 |int (k:IntKind)|bool|str
 deriving DecidableEq,Inhabited
inductive HOp where
 |mov (x:Operand)|pick (c a b:Operand)|bin (op:BinOp) (x y:Operand)|eqa (neg:Bool) (ks:List LK) (x y:Operand)|eqb (neg:Bool) (x y:Operand)|eqp (neg:Bool) (x y:Operand)|un (op:UnOp) (x:Operand)|conv (k:IntKind) (x:Operand)
 |box (x:Operand)|alloc (z:List Value)|bld (z:List Value) (parts:List (Nat×Nat×Operand))|bsl (k:Nat) (z:List Value) (parts:List (Nat×Nat×Operand)) (len:Nat)|ld (n:Option Nat) (p:Operand)|st (n:Nat) (p x:Operand)|fad (p:Operand) (off:Nat)|fld (x:Operand) (off:Nat) (n:Option Nat)|iad (x ix:Operand) (k:Nat)|iadA (x ix:Operand) (len k:Nat)|ixS (x ix:Operand)|lenS (x:Operand)|lenL (x:Operand)|app (x y:Operand) (k bytes:Nat)|ext (x:Operand) (i:Nat)|clo (f:FuncId) (caps:List Operand)|call (f:Operand) (args:List Operand)|nilc (x:Operand)|slc (x:Operand) (lo hi:Option Operand) (k:Nat)|slcS (x:Operand) (lo hi:Option Operand)|nilS (neg:Bool) (kind:Nat) (x:Operand)|mm (max:Bool) (x y:Operand)|mkm (ag:Bool)|lku (ag:Bool) (ls:List LK) (z:Value) (m k:Operand) (ok:Bool)|mup (ag:Bool) (ls:List LK) (m k x:Operand)|men (ag:Bool) (ls:List LK) (z:Value) (m k:Operand)|mst (m s x:Operand)|del (ag:Bool) (ls:List LK) (m k:Operand)|lenM (m:Operand)|mks (k:Nat) (z:List Value) (bytes:Nat) (x y:Operand)|s2b (x:Operand)|b2s (x:Operand)|apS (x y:Operand)|slx (x:Operand) (lo:Option Operand) (hi mx:Operand) (k:Nat)|bmo (f:FuncId) (k:Nat) (caps:List Operand)|rgm (m:Operand)|nxt (p:Operand)|ent (p:Operand)|bad|clr (x:Operand) (k:Nat) (z:List Value)|bslS (k:Nat) (z:List Value) (parts:List (Nat×Nat×Operand)) (len:Nat)|b2b (x:Operand)
 deriving Inhabited
structure HOper where
 dst:Option Nat
 op:HOp
 guard:Option (Nat×Bool)
 deriving Inhabited
inductive HD where
 |done (gc:Bool)|no|q (o:HOper) (next:HD)|alt (o:HOper) (chk:List HOper) (next other:HD)|perm (chk ops:List HOper) (next:HD)|plan (hops:List HOper) (pre:List (List Nat)) (n:Nat) (gc:Bool) (E:List Nat)
 deriving Inhabited
inductive HC where
 |skip|reg (ops:List HOper)|regd (d:HD)|seq (a b:HC)|cond (c:Operand) (a b:HC)|block (id:Nat) (a:HC)|loop (drop:List Nat) (a:HC)|exit (id:Nat)|ret|kill (d:List Nat)|own (j:Nat) (c:Option Nat) (k:Nat)|shut (j:Nat)|rng (g:Operand) (ps d:List Nat) (a b:HC)
 deriving Inhabited
structure St where
 r:Nat
 s:List (Nat×AV)
 T:aK
 deriving Inhabited
def bA:List (Nat×AV)->Nat->AV|[],_=>.any|(i,x)::r,j=>if i=j then x else bA r j
def LE:List (Nat×AV)->Nat->List (Nat×AV)|[],_=>[]|(i,x)::r,j=>if i=j then LE r j else(i,x)::LE r j
def GW(l:List (Nat×AV))(j:Nat)(x:AV):List (Nat×AV):=(j,x)::LE l j
def fV(l:List (Nat×AV))(d:Option Nat)(x:AV):List (Nat×AV):=match d with|some j=>GW l j x|none=>l
def dW(G:L_)(s:List (Nat×AV)):Operand->AV
 |.tmp t=>bA s t|.const x=>.v x|.global g=>match G g with|some a=>.rp a|none=>.any
 |.func f=>.cl f []
def sZ:Option AObj->Option (Nat×N_×Bool)|some (.arr k a)=>some (k,a,true)|some (.arf k a)=>some (k,a,false)|_=>none
def jE:Bool->Nat->N_->AObj|true,k,a=>.arr k a|false,k,a=>.arf k a
def PO:Bool->AV->Bool|true,c=>aX c|false,c=>gS c
def cR(T:aK)(i:Nat):Option AObj:=match T[i]? with|some (some o)=>some o|_=>none
def dT:AV->O_|.ag b=>b|.v (.agg a)=>a.toList.map .v|x=>[x]
def Vu:AV->Option O_|.ag b=>some b|.v (.agg a)=>some (a.toList.map .v)|_=>none
def Mo(cs:O_)(off:Nat):Option Nat->Option AV|none=>cs[off]?|some n=>if off+n<=cs.length then some (.ag ((cs.drop off).take n)) else none
def bV (op:BinOp):Value->Value->Option Value
 | .int k a,.int c b=>
  match op with
  |.shl=>if b<0 then none else some (.int k (k.wrap (a*2^(min b.toNat k.bits))))|.shr=>if b<0 then none else some (.int k (a.fdiv (2^(min b.toNat k.bits))))| _=>
   if k=c then
    match op with
    |.add=>some (.int k (k.wrap (a+b)))|.sub=>some (.int k (k.wrap (a-b)))|.mul=>some (.int k (k.wrap (a*b)))|.quo=>if b=0 then none else some (.int k (k.wrap (a.tdiv b)))|.rem=>if b=0 then none else some (.int k (a.tmod b))|.and=>some (.int k (k.wrap (BitVec.ofInt k.bits a &&& BitVec.ofInt k.bits b).toNat))|.or=>some (.int k (k.wrap (BitVec.ofInt k.bits a ||| BitVec.ofInt k.bits b).toNat))|.xor=>some (.int k (k.wrap (BitVec.ofInt k.bits a ^^^ BitVec.ofInt k.bits b).toNat))|.andNot=>some (.int k (k.wrap (BitVec.ofInt k.bits a &&& ~~~ (BitVec.ofInt k.bits b)).toNat))|.eql=>some (.bool (a==b))|.neq=>some (.bool (a !=b))|.lss=>some (.bool (a<b))|.leq=>some (.bool (a<=b))|.gtr=>some (.bool (a>b))|.geq=>some (.bool (a>=b))|_=>none
   else none
 |.string a,.string b=>
  match op with
  |.add=>if a.size+b.size<=maxLen then some (.string (a++b)) else none|.eql=>some (.bool (a.toList==b.toList))|.neq=>some (.bool (!(a.toList==b.toList)))|.lss=>some (.bool (Op.bytesLess a.toList b.toList))|.leq=>some (.bool (Op.bytesLess a.toList b.toList||a.toList==b.toList))|.gtr=>some (.bool (!(Op.bytesLess a.toList b.toList||a.toList==b.toList)))|.geq=>some (.bool (!Op.bytesLess a.toList b.toList))|_=>none
 |_,_=>none
def pun(op:UnOp):Value->Option Value
 |.bool b=>match op with|.not=>some (.bool (!b))|_=>none
 |.int k n=>match op with|.neg=>some (.int k (k.wrap (0-n)))|.xor=>some (.int k (k.wrap (BitVec.ofInt k.bits (if k.signed then -1 else k.max) ^^^ BitVec.ofInt k.bits n).toNat))|_=>none
 |_=>none
def eqC:List LK->O_->O_->Option Bool
 |[],[],[]=>some true|.int k::c,.v (.int f a)::d,.v (.int e b)::ds=>if f=k/\e=k then(match eqC c d ds with|some r=>some (a==b&&r)|none=>none) else none
 |.bool::c,.v (.bool a)::d,.v (.bool b)::ds=>match eqC c d ds with|some r=>some (a==b&&r)|none=>none
 |.str::c,.v (.string a)::d,.v (.string b)::ds=>match eqC c d ds with|some r=>some (a.toList==b.toList&&r)|none=>none
 |_,_,_=>none
def rJ:List LK->C_->C_->Option Bool
 |[],[],[]=>some true|.int k::c,.int f a::d,.int e b::ds=>if f=k/\e=k then(match rJ c d ds with|some r=>some (a==b&&r)|none=>none) else none
 |.bool::c,.bool a::d,.bool b::ds=>match rJ c d ds with|some r=>some (a==b&&r)|none=>none
 |.str::c,.string a::d,.string b::ds=>match rJ c d ds with|some r=>some (a.toList==b.toList&&r)|none=>none
 |_,_,_=>none
def eR(ls:List LK)(k:C_):List C_->Nat->Option (Option Nat)|[],_=>some none|a::r,i=>match rJ ls k a with|some true=>some (some i)|some false=>eR ls k r (i+1)|none=>none
def G6:O_->Option C_
 |[]=>some []|.v x::r=>match G6 r with|some l=>some (x::l)|none=>none
 |_::_=>none
def LF(ag:Bool)(ls:List LK)(x:AV):Option C_:=
 match(if ag then(match Vu x with|some a=>G6 a|none=>none) else(match x with|.v u=>some [u]|_=>none)) with
 |some k=>match rJ ls k k with|some _=>some k|none=>none
 |none=>none
def aC2(T:aK)(ag:Bool):AV->Option (List C_×O_)
 |.v (.map none)=>some ([],[])|.mp i=>match cR T i with|some (.map a c b _ _)=>if ag=a then some (c,b) else none|_=>none
 |_=>none
def JY(a:O_):List (Nat×Nat×AV)->Option O_
 |[]=>some a
 |(b,n,x)::r=>
  if(dT x).length=n/\b+n<=a.length/\(dT x).all gS=true then JY (a.take b++dT x++a.drop (b+n)) r else none
def yI(k:Nat):Nat->O_->N_|0,_=>[]|n+1,a=>a.take k::yI k n (a.drop k)
def lJ(s:ByteArray):N_:=s.data.toList.map λb=>[.v (.int .u8 b.toNat)]
def aKs:N_->Option (List UInt8)
 |[]=>some []|[.v (.int .u8 n)]::r=>match aKs r with|some l=>some (UInt8.ofNat n.toNat::l)|none=>none
 |_::_=>none
def Rj(T:aK)(k:Nat):AV->Option N_
 |.ls c b=>if k=c then some b else none|.own a=>match cR T a with|some (.arr c b)=>if k=c then some b else none|_=>none
 |.v (.slice none 0 0)=>some []|.vw a c lo m=>match cR T a with|some (.arr d b)=>if k=c/\k=d/\lo+m<=b.length then some ((b.drop lo).take m) else none|_=>none
 |_=>none
def Zj:AV->Option Nat|.v (.int _ n)=>if 0<=n then some n.toNat else none|_=>none
mutual
def gF:AV->V_|.own i=>[i]|.ptr i _=>[i]|.elt i _ _ _=>[i]|.vw i _ _ _=>[i]|.mp i=>[i]|.yl i=>[i]|.bm _ _ a=>iZ a|.ag a=>iZ a|.cl _ a=>iZ a|.tup a=>iZ a|_=>[]
def iZ:O_->V_|[]=>[]|c::a=>gF c++iZ a
end
mutual
def CB(i k:Nat)(es:N_):AV->AV
 |.own j=>if j=i then .ls k es else .own j|.elt j c m b=>if j=i then(if c=k then(match es[m]? with|some e=>.rp (e.drop b)|none=>.any) else .any) else .elt j c m b
 |.vw j c lo m=>if j=i then(if c=k/\lo+m<=es.length then .ls k ((es.drop lo).take m) else .any) else .vw j c lo m|.ag a=>.ag (IB i k es a)|.cl f a=>.cl f (IB i k es a)|.bm f m a=>.bm f m (IB i k es a)|.tup a=>.tup (IB i k es a)|x=>x
def IB(i k:Nat)(es:N_):O_->O_|[]=>[]|c::a=>CB i k es c::IB i k es a
end
def QR(i k:Nat)(es:N_):List (Nat×AV)->List (Nat×AV)|[]=>[]|(j,x)::r=>(j,CB i k es x)::QR i k es r
def Zk(i k:Nat)(es:N_):N_->N_|[]=>[]|e::r=>IB i k es e::Zk i k es r
def Vq(i k:Nat)(es:N_):AObj->Option AObj|.box j=>some (.box (IB i k es j))|.arf f e=>if(Zk i k es e).all (·.all gS) then some (.arf f (Zk i k es e)) else none|.lp r s=>some (.lp r (QR i k es s))|.mit a b c d=>some (.mit a b c d)|.map m h g bs l=>some (.map m h (IB i k es g) bs l)|.arr f e=>some (.arr f e)
def QS(i k:Nat)(es:N_):aK->aK|[]=>[]|o::r=>o.bind (Vq i k es)::QS i k es r
def Gq(T:aK):V_->aK|[]=>T|i::r=>match cR T i with|some (.arr k a)=>Gq ((QS i k a T).set i none) r|_=>Gq T r
def uS(T:aK):V_->AV->AV|[],x=>x|i::r,x=>match cR T i with|some (.arr k a)=>uS ((QS i k a T).set i none) r (CB i k a x)|_=>uS T r x
def cE (T:aK) (ev:Operand->AV):HOp->Option (AV×aK)
 |.mov x=>some (ev x,T)
 |.pick c a b=>match ev c with
  |.v (.bool t)=>some (if t then ev a else ev b,T)
  |_=>none
 | .bin op x y=>match ev x,ev y with
  |.v a,.v b=>match bV op a b with
   |some u=>some (.v u,T)
   |none=>none
  |_,_=>none
 | .eqa neg ks x y=>match Vu (ev x),Vu (ev y) with
  |some cs,some ds=>match eqC ks cs ds with
   |some t=>some (.v (.bool (if neg then !t else t)),T)
   |none=>none
  |_,_=>none
 |.eqb neg x y=>match ev x,ev y with
  |.v (.bool a),.v (.bool b)=>some (.v (.bool (if neg then !(a==b) else a==b)),T)
  |_,_=>none
 |.eqp neg x y=>match ev x,ev y with
  |.v (.pointer none),.v (.pointer none)=>some (.v (.bool (!neg)),T)
  |_,_=>none
 | .un op x=>match ev x with
  |.v a=>match pun op a with
   |some u=>some (.v u,T)
   |none=>none
  |_=>none
 |.conv k x=>match ev x with
  |.v (.int _ n)=>some (.v (.int k (k.wrap n)),T)
  |_=>none
 |.box x=>if(dT (ev x)).all gS then some (.ptr T.length 0,T++[some (.box (dT (ev x)))]) else none
 |.alloc z=>some (.ptr T.length 0,T++[some (.box (z.map .v))])
 |.bld z parts=>match JY (z.map .v) (parts.map λp=>(p.1,p.2.1,ev p.2.2)) with
  |some cs=>some (.ag cs,T)
  |none=>none
 |.bsl k z parts len=>match JY (z.map .v) (parts.map λp=>(p.1,p.2.1,ev p.2.2)) with
  |some cs=>if cs.all aX then some (.own T.length,T++[some (.arr k (yI k len cs))]) else if cs.all gS then some (.own T.length,T++[some (.arf k (yI k len cs))]) else none
  |none=>none
 |.bslS k z parts len=>match JY (z.map .v) (parts.map λp=>(p.1,p.2.1,uS T (iZ (parts.map λp=>ev p.2.2)) (ev p.2.2))) with
  |some cs=>if cs.all aX then some (.own (Gq T (iZ (parts.map λp=>ev p.2.2))).length,Gq T (iZ (parts.map λp=>ev p.2.2))++[some (.arr k (yI k len cs))]) else none
  |none=>none
 | .ld n p=>match ev p with
  | .ptr i off=>match cR T i with
   |some (.box cs)=>match Mo cs off n with
    |some x=>some (x,T)
    |none=>none
   |_=>none
  |.rp cs=>match Mo cs 0 n with
   |some x=>some (x,T)
   |none=>none
  | .elt i k j off=>match sZ (cR T i) with
   | some (k',es,_)=>if k=k' then match es[j]? with
    |some e=>match Mo e off n with
     |some x=>some (x,T)
     |none=>none
    |none=>none else none
   |_=>none
  |_=>none
 | .st n p x=>match ev p with
  | .ptr i off=>match cR T i with
   | some (.box cs)=>
    if(dT (ev x)).length=n/\off+n<=cs.length/\(dT (ev x)).all gS then
     some (.v undef,T.set i (some (.box (cs.take off++dT (ev x)++cs.drop (off+n)))))
    else none
   |_=>none
  | .elt i k j off=>match sZ (cR T i) with
   | some (k',es,b)=>if k=k' then match es[j]? with
    | some e=>
     if(dT (ev x)).length=n/\off+n<=e.length/\(dT (ev x)).all (PO b) then
      some (.v undef,T.set i (some (jE b k (es.set j (e.take off++dT (ev x)++e.drop (off+n))))))
     else if(dT (ev x)).length=n/\off+n<=e.length/\(dT (ev x)).all (PO false) then
      some (.v undef,T.set i (some (jE false k (es.set j (e.take off++dT (ev x)++e.drop (off+n))))))
     else none
    |none=>none else none
   |_=>none
  |_=>none
 |.fad p off=>match ev p with
  |.ptr i o=>some (.ptr i (o+off),T)
  |.elt i k j o=>some (.elt i k j (o+off),T)
  |.rp cs=>some (.rp (cs.drop off),T)
  |_=>none
 | .fld x off n=>match ev x with
  |.ag cs=>match Mo cs off n with
   |some y=>some (y,T)
   |none=>none
  |.v (.agg us)=>match Mo (us.toList.map .v) off n with
   |some y=>some (y,T)
   |none=>none
  |_=>none
 | .iad x ix k=>match ev x,ev ix with
  |.ls k' es,.v (.int _ i)=>if k=k'/\0<=i then match es[i.toNat]? with
   |some e=>some (.rp e,T)
   |none=>none else none
  |.own a,.v (.int _ i)=>match sZ (cR T a) with
   |some (k',es,_)=>if k=k'/\0<=i/\i.toNat<es.length then some (.elt a k i.toNat 0,T) else none
   |_=>none
  |.vw a k' lo m,.v (.int _ i)=>if k=k'/\0<=i/\i.toNat<m then some (.elt a k (lo+i.toNat) 0,T) else none
  |_,_=>none
 |.iadA x ix len k=>match ev x,ev ix with
  |.ptr a o,.v (.int _ i)=>if 0<=i/\i<len then some (.ptr a (o+i.toNat*k),T) else none
  |.rp cs,.v (.int _ i)=>if 0<=i/\i<len then some (.rp (cs.drop (i.toNat*k)),T) else none
  |.elt a k' j o,.v (.int _ i)=>if 0<=i/\i<len then some (.elt a k' j (o+i.toNat*k),T) else none
  |_,_=>none
 | .ixS x ix=>match ev x,ev ix with
  |.v (.string s),.v (.int _ i)=>if 0<=i then match s.data[i.toNat]? with
   |some b=>some (.v (.int .u8 b.toNat),T)
   |none=>none else none
  |_,_=>none
 |.lenS x=>match ev x with
  |.v (.string s)=>some (.v (.int .i64 s.size),T)
  |_=>none
 | .lenL x=>match ev x with
  |.ls _ es=>some (.v (.int .i64 es.length),T)
  |.own a=>match sZ (cR T a) with
   |some (_,es,_)=>some (.v (.int .i64 es.length),T)
   |_=>none
  |.v (.slice none 0 0)=>some (.v (.int .i64 0),T)
  |.vw _ _ _ m=>some (.v (.int .i64 m),T)
  |_=>none
 | .app x y k bytes=>
  let src:Option (N_×Bool):=match ev y with
   |.ls k' es=>if k=k' then some (es,true) else none
   |.own a=>match sZ (cR T a) with
    |some (k',es,b)=>if k=k' then some (es,b) else none
    |_=>none
   |.v (.slice none 0 0)=>some ([],true)
   |.vw a k' lo m=>match sZ (cR T a) with
    |some (k'',es,b)=>if k=k'/\k=k''/\lo+m<=es.length then some ((es.drop lo).take m,b) else none
    |_=>none
   |_=>none
  match src with
  |none=>none
  | some (new,b)=>match ev x with
   |.v (.slice none 0 0)=>if new.length*bytes<=140737488355328/\new.length<=maxLen then some (.own T.length,T++[some (jE b k new)]) else none
   |.own a=>match sZ (cR T a) with
    |some (k',es,b')=>if k=k'/\(es.length+new.length)*bytes<=140737488355328/\es.length+new.length<=maxLen then some (.own T.length,T.set a none++[some (jE (b&&b') k (es++new))]) else none
    |_=>none
   |_=>none
 | .ext x i=>match ev x with
  |.tup vs=>match vs[i]? with
   |some y=>some (y,T)
   |none=>none
  |.v (.tuple us)=>match us.toList[i]? with
   |some y=>some (.v y,T)
   |none=>none
  |_=>none
 |.clo f caps=>some (.cl f (caps.map ev),T)
 |.call _ _=>none
 |.nilc x=>match ev x with
  |.ptr i o=>some (.ptr i o,T)
  |.elt i k j o=>some (.elt i k j o,T)
  |.rp cs=>some (.rp cs,T)
  |_=>none
 | .slc x lo hi k=>
  let qD (o:Option Operand) (d:Nat):Option Nat:=match o with
   |none=>some d
   |some o=>match ev o with
    |.v (.int _ n)=>if 0<=n then some n.toNat else none
    |_=>none
  match ev x with
  |.ls k' es=>match qD lo 0,qD hi es.length with
   |some l,some h=>if k=k'/\l<=h/\h<=es.length then some (.ls k ((es.drop l).take (h-l)),T) else none
   |_,_=>none
  | .own a=>match sZ (cR T a) with
   |some (k',es,_)=>match qD lo 0,qD hi es.length with
    |some l,some h=>if k=k'/\l<=h/\h<=es.length then some (.vw a k l (h-l),T) else none
    |_,_=>none
   |_=>none
  |.vw a k' lo' m=>match qD lo 0,qD hi m with
   |some l,some h=>if k=k'/\l<=h/\h<=m then some (.vw a k (lo'+l) (h-l),T) else none
   |_,_=>none
  |.v (.slice none 0 0)=>match qD lo 0,qD hi 0 with
   |some l,some h=>if l=0/\h=0 then some (.v (.slice none 0 0),T) else none
   |_,_=>none
  |_=>none
 | .slcS x lo hi=>
  let qD (o:Option Operand) (d:Nat):Option Nat:=match o with
   |none=>some d
   |some o=>match ev o with
    |.v (.int _ n)=>if 0<=n then some n.toNat else none
    |_=>none
  match ev x with
  |.v (.string s)=>match qD lo 0,qD hi s.size with
   |some l,some h=>if l<=h/\h<=s.size then some (.v (.string (s.extract l h)),T) else none
   |_,_=>none
  |_=>none
 | .nilS neg kd x=>
  let r:Option Bool:=match kd,ev x with
   |0,.v (.pointer none)=>some true
   |0,.ptr _ _=>some false
   |0,.elt _ _ _ _=>some false
   |0,.rp _=>some false
   |1,.v (.slice none 0 0)=>some true
   |1,.own a=>match sZ (cR T a) with
    |some (_,_::_,_)=>some false
    |_=>none
   |1,.ls _ (_::_)=>some false
   |2,.v .nilFunc=>some true
   |2,.cl _ _=>some false
   |2,.v (.func _ _ _)=>some false
   |_,_=>none
  match r with
  |some b=>some (.v (.bool (if neg then !b else b)),T)
  |none=>none
 |.mm mx x y=>match ev x,ev y with
  |.v (.int k a),.v (.int k' b)=>if k=k' then some (.v (.int k (if mx then(if b>a then b else a) else if b<a then b else a)),T) else none
  |.v (.string a),.v (.string b)=>some (.v (.string (if mx then(if !Op.bytesLess a.toList b.toList then a else b) else if Op.bytesLess a.toList b.toList||a.toList==b.toList then a else b)),T)
  |_,_=>none
 |.mkm ag=>some (.mp T.length,T++[some (.map ag [] [] [] 0)])
 | .lku ag ls z m k ok=>match aC2 T ag (ev m),LF ag ls (ev k) with
  | some (ks,vs),some kc=>match eR ls kc ks 0 with
   |some none=>some (if ok then .tup [.v z,.v (.bool false)] else .v z,T)
   |some (some j)=>match vs[j]? with
    |some x=>some (if ok then .tup [x,.v (.bool true)] else x,T)
    |none=>none
   |none=>none
  |_,_=>none
 | .mup ag ls m k x=>match ev m with
  | .mp i=>match cR T i,LF ag ls (ev k) with
   |some (.map ag' ks vs bs cl),some kc=>if ag=ag' then match eR ls kc ks 0 with
    |some none=>some (.v undef,T.set i (some (.map ag (ks++[kc]) (vs++[ev x]) (bs++[cl]) (cl+1))))
    |some (some j)=>some (.v undef,T.set i (some (.map ag ks (vs.set j (ev x)) bs cl)))
    |none=>none else none
   |_,_=>none
  |_=>none
 | .men ag ls z m k=>match ev m with
  | .mp i=>match cR T i,LF ag ls (ev k) with
   | some (.map ag' ks vs bs cl),some kc=>if ag=ag' then match eR ls kc ks 0 with
    |some none=>some (.tup [.v z,.v (.int .i64 cl)],T.set i (some (.map ag (ks++[kc]) (vs++[.v z]) (bs++[cl]) (cl+1))))
    |some (some j)=>match vs[j]?,bs[j]? with
     |some x,some b=>some (.tup [x,.v (.int .i64 b)],T)
     |_,_=>none
    |none=>none else none
   |_,_=>none
  |_=>none
 | .mst m s x=>match ev m,ev s with
  | .mp i,.v (.int _ n)=>match cR T i with
   |some (.map ag ks vs bs cl)=>match bs.findIdx? (λ(b:Nat)=>(b:Int)==n) with
    |some j=>some (.v undef,T.set i (some (.map ag ks (vs.set j (ev x)) bs cl)))
    |none=>none
   |_=>none
  |_,_=>none
 | .del ag ls m k=>match ev m with
  | .mp i=>match cR T i,LF ag ls (ev k) with
   |some (.map ag' ks vs bs cl),some kc=>if ag=ag' then match eR ls kc ks 0 with
    |some none=>some (.v (.tuple #[]),T)
    |some (some j)=>some (.v (.tuple #[]),T.set i (some (.map ag (ks.eraseIdx j) (vs.eraseIdx j) (bs.eraseIdx j) cl)))
    |none=>none else none
   |_,_=>none
  |_=>none
 | .lenM m=>match ev m with
  |.v (.map none)=>some (.v (.int .i64 0),T)
  |.mp i=>match cR T i with
   |some (.map _ ks _ _ _)=>some (.v (.int .i64 ks.length),T)
   |_=>none
  |_=>none
 |.mks k z bytes x y=>match ev x,ev y with
  |.v (.int .i64 n),.v (.int .i64 c)=>if 0<=n/\n<=c/\c*bytes<=140737488355328/\c<=maxLen then some (.own T.length,T++[some (.arr k (List.replicate n.toNat (z.map .v)))]) else none
  |_,_=>none
 |.s2b x=>match ev x with
  |.v (.string s)=>if s.size<=maxLen then some (.ls 1 (lJ s),T) else none
  |_=>none
 | .b2b x=>match ev x with
  |.own i=>match cR T i with
   |some (.arr k (e::es))=>if k=1 then some (.ls 1 (e::es),T.set i none) else none
   |_=>none
  |_=>none
 | .b2s x=>match Rj T 1 (ev x) with
  |some es=>match aKs es with
   |some l=>some (.v (.string ⟨l.toArray⟩),T)
   |none=>none
  |none=>none
 | .apS x y=>match ev y with
  | .v (.string s)=>match ev x with
   |.v (.slice none 0 0)=>if s.size<=140737488355328/\s.size<=maxLen then some (.own T.length,T++[some (.arr 1 (lJ s))]) else none
   |.own a=>match cR T a with
    |some (.arr k' es)=>if k'=1/\es.length+s.size<=140737488355328/\es.length+s.size<=maxLen then some (.own T.length,T.set a none++[some (.arr 1 (es++lJ s))]) else none
    |_=>none
   |_=>none
  |_=>none
 | .slx x lo hi mx k=>match(match lo with|none=>some 0|some o=>Zj (ev o)),Zj (ev hi),Zj (ev mx) with
  | some l,some h,some m=>match ev x with
   |.ls k' es=>if k=k'/\l<=h/\h<=m/\m<=es.length then(if m=l then some (.own T.length,T++[some (.arr k [])]) else some (.ls k ((es.drop l).take (h-l)),T)) else none
   |.own a=>match cR T a with
    |some (.arr k' es)=>if k=k'/\l<=h/\h<=m/\m<=es.length then(if m=l then some (.own T.length,T++[some (.arr k [])]) else some (.vw a k l (h-l),T)) else none
    |_=>none
   |.vw a k' lo' n=>if k=k'/\l<=h/\h<=m/\m<=n then(if m=l then some (.own T.length,T++[some (.arr k [])]) else some (.vw a k (lo'+l) (h-l),T)) else none
   |.v (.slice none 0 0)=>if l=0/\h=0/\m=0 then some (.own T.length,T++[some (.arr k [])]) else none
   |_=>none
  |_,_,_=>none
 |.bmo f k caps=>some (.bm f k (caps.map ev),T)
 | .rgm m=>match ev m with
  |.v (.map none)=>some (.ptr T.length 0,T++[some (.mit none 0 [] 0)])
  |.mp j=>match cR T j with
   |some (.map _ _ _ _ cl)=>some (.ptr T.length 0,T++[some (.mit (some j) cl [] cl)])
   |_=>none
  |_=>none
 |.nxt _=>none
 |.bad=>none
 | .ent p=>match ev p with
  | .ptr i 0=>match cR T i with
   | some (.mit (some j) _ aAD la)=>match cR T j,aAD.getLast? with
    | some (.map ag ks vs bs cl),some b=>if cl=la then match bs.findIdx? (· == b) with
     |some e=>match ks[e]?,vs[e]? with
      |some k,some v=>some (.tup [.v (iY ag k),v],T)
      |_,_=>none
     |none=>none else none
    |_,_=>none
   |_=>none
  |_=>none
 | .clr x k z=>match ev x with
  |.ls _ []=>some (.v (.tuple #[]),T)
  |.v (.slice none 0 0)=>some (.v (.tuple #[]),T)
  |.own a=>match cR T a with
   |some (.arr k' es)=>if k=k'/\z.length=k/\(z.all λv=>aX (.v v))=true then some (.v (.tuple #[]),T.set a (some (.arr k (List.replicate es.length (z.map .v))))) else none
   |_=>none
  |.vw a k' lo m=>match cR T a with
   |some (.arr k'' es)=>if k=k'/\k=k''/\z.length=k/\lo+m<=es.length/\(z.all λv=>aX (.v v))=true then some (.v (.tuple #[]),T.set a (some (.arr k (es.take lo++List.replicate m (z.map .v)++es.drop (lo+m))))) else none
   |_=>none
  |_=>none
end Hud
namespace Hud
def Xf(m:Nat):Nat->Nat->Nat->Nat->Nat|0,_,_,a=>a|f+1,b,e,a=>if e=0 then a else Xf m f (b*b%m) (e/2) (if e%2=1 then a*b%m else a)
def SP (m:Nat):∀(f b e acc:Nat),e<2^f->Xf m f b e acc%m=acc*b^e%m
 |0,b,e,acc,h=>by
  have:e=0:=sk;subst this;simp[Xf]
 | f+1,b,e,acc,h=>by
  simp only[Xf];split;rename_i h0;subst h0;simp;rw[SP m f _ (e/2) _ (by rw[QM]at h;omega)];have h2:b^e=(b*b)^(e/2)*b^(e%2):=by rw[<-Nat.pow_two,<-IA,<-aBX];congr 1;omega
  rw[CY,Kn,Mn,<-Kn,<-CY,h2];rcases Nat.mod_two_eq_zero_or_one e with h3|h3;rw[h3];simp;rw[h3];simp only[if_true,Nat.pow_one];rw[CY,Mn,<-CY];congr 1;rw[aBZ,QP b]
def PP:Nat:=2305843009213693951
def NN:Nat:=2305843009213693950
def Wb:V_:=[2,3,5,7,11,13,31,41,61,151,331,1321]
def aGX:37^NN%PP=1:=by have:=SP PP 61 37 NN 1 d_;rw[Km]at this;rw[<-this];decide +kernel
def aJR:∀r∈Wb,37^(NN/r)%PP≠1:=by
 intro r b;have a:∀r∈Wb,Xf PP 61 37 (NN/r) 1%PP≠1:=d5;have:=SP PP 61 37 (NN/r) 1 (QJ (Ml _ _) d_);rw[Km]at this;rw[<-this];exact a r b
def N7:∀r∈Wb,1<r/\∀d,d ∣ r->d=1\/d=r:=by
 have a:∀r∈Wb,1<r/\∀d,d<r->1<d->r%d≠0:=d5;intro r c;obtain⟨h1,h2⟩:=a r c;refine⟨h1,λd b=>?_⟩;have f:=Nat.le_of_dvd o_ b;have h0:d≠0:=λe=>by subst e;rw[Nat.zero_dvd]at b;omega
 by_cases h:d=1;exact .inl h;by_cases g:d=r;exact .inr g;exact absurd (Nat.mod_eq_zero_of_dvd b) (h2 d o_ o_)
def aFg:NN=2*(3^2*(5^2*(7*(11*(13*(31*(41*(61*(151*(331*1321)))))))))):=d_
def aHM{r m:Nat}(a:∀d,d ∣ r->d=1\/d=r):Nat.Coprime m r\/r ∣ m:=by rcases a (Nat.gcd m r) (Nat.gcd_dvd_right m r) with h|h;exact .inl h;exact .inr (h ▸ Nat.gcd_dvd_left m r)
def aCO {e:Nat} (o:e ∣ NN) (l:e<NN):∃r∈Wb,e ∣ NN/r:=by
 obtain⟨m,j⟩:=o;have g:m≠1:=λh=>by subst h;omega
 have i:∃r∈Wb,r ∣ m:=by
  refine QB λf=>g ?_;have a:∀r∈Wb,Nat.Coprime m r:=λr b=>(aHM (N7 r b).2).resolve_right λh=>f ⟨r,b,h⟩;have c:Nat.Coprime m NN:=by
   rw[aFg];exact Me (a 2 d_) <| Me (Nat.Coprime.pow_right _ (a 3 d_)) <| Me (Nat.Coprime.pow_right _ (a 5 d_)) <|
    Me (a 7 d_) <| Me (a 11 d_) <| Me (a 13 d_) <| Me (a 31 d_) <|
    Me (a 41 d_) <| Me (a 61 d_) <| Me (a 151 d_) <| Me (a 331 d_) (a 1321 d_)
  have:Nat.gcd m NN=m:=Nat.gcd_eq_left ⟨e,by rw[QP];exact j⟩;rw[<-this];exact c
 obtain⟨r,b,k,n⟩:=i;refine⟨r,b,k,?_⟩;have d:0<r:=by have:=(N7 r b).1;omega
 rw[j,n,Nat.mul_left_comm,Nat.mul_div_cancel_left _ d]
def UP{g m:Nat}(c:1<m):∀(a b:Nat),g^a%m=1->g^b%m=1->g^Nat.gcd a b%m=1:=by
 intro a b
 induction a,b using Nat.gcd.induction with
 |H0 n=>intro _ h;simpa using h|H1 a b e ih=>
  intro h1 h2;rw[Nat.gcd_rec];refine ih ?_ h1;have d:b=a*(b/a)+b%a:=(QL b a).symm;rw[d,aBX,IA,CY,Kn,h1,Nat.one_pow,EZ c,Km,Mn]at h2;exact h2
def aHN{d:Nat}(h0:0<d)(c:d<NN):37^d%PP≠1:=by intro h;have i:=UP (g:=37) (m:=PP) d_ d NN h aGX;have a:=Nat.gcd_dvd_right d NN;have e:Nat.gcd d NN<=d:=Nat.le_of_dvd h0 (Nat.gcd_dvd_left d NN);obtain⟨r,b,k,f⟩:=aCO a o_;apply aJR r b;rw[f,IA,Kn,i,Nat.one_pow];decide
def aCP(i:Nat):Nat.Coprime (37^i) PP:=Nat.Coprime.pow_left i d_
def aHO{i j:Nat}(c:i<j)(l:j<NN):37^i%PP≠37^j%PP:=by
 intro h;have b:PP ∣ 37^j-37^i:=Nat.dvd_of_mod_eq_zero (Nat.sub_mod_eq_zero_of_mod_eq h.symm);have e:37^j-37^i=37^i*(37^(j-i)-1):=by rw[Nat.mul_sub,<-aBX,Bb];congr 2;omega
 rw[e]at b;have a:=Nat.Coprime.dvd_of_dvd_mul_left (aCP i).symm b;apply aHN (d:=j-i) o_ o_;have h1:1<=37^(j-i):=Nat.one_le_pow _ _ d_;obtain⟨k,g⟩:=a;have f:37^(j-i)=1+PP*k:=o_;rw[f,Nat.add_mul_mod_self_left];decide
def aCQ:∀(n:Nat)(l:V_),l.Nodup->(∀x∈l,x<n)->l.length<=n
 |0,l,_,h=>by
  cases l with
  |nil=>simp|cons x l=>have:=h x s_;omega
 | n+1,l,d,h=>by
  have h1:=aCQ n (l.filter (· ≠ n)) (d.filter _) (λx b=>by
   simp only[gR,decide_eq_true_eq]at b;have:=h x b.1;have:=b.2
   omega)
  have h2:l.length<=(l.filter (· ≠ n)).length+1:=by
   clear h h1
   induction l with
   |nil=>simp| cons x l ih=>
    obtain⟨b,c⟩:=BU.1 d;by_cases a:x=n;subst a;have:l.filter (· ≠ x)=l:=Gm.2 λy f=>by simp only[ne_eq,decide_not,EX,decide_eq_false_iff_not];exact λe=>b (e ▸ f)
    rw[List.filter_cons_of_neg s_,this];simp;have:=ih c;simp only[List.filter_cons,ne_eq,a,not_false_eq_true,decide_true,if_true,sE];simpa using this
  omega
def aCR:∀n,n<=NN->((List.range n).map λi=>37^i%PP).Nodup:=by intro n f;rw[Rh,Mh];refine TU ?_ (List.pairwise_lt_range (n:=n));intro a b e d c;rw[uM]at e d;exact aHO c o_
def Wc{L:V_}{n:Nat}(g:L.length+1=n)(f:L.Nodup)(d:0∉L)(c:∀y∈L,y<n){x:Nat}(h0:0<x)(e:x<n):x∈L:=by
 refine QB λb=>?_
 have:=aCQ n (0::x::L) (by
  rw[BU,BU];refine⟨λh=>?_,b,f⟩;rcases cS.1 h with h|h;omega
  exact d h) (by
  intro y a;rcases cS.1 a with rfl|a;omega;rcases cS.1 a with rfl|a;exact e
  exact c y a)
 simp only[sE]at this;omega
def aFh(n:Nat):0∉((List.range n).map λi=>37^i%PP):=by intro h;obtain⟨i,_,a⟩:=dF.1 h;have:PP ∣ 37^i:=Nat.dvd_of_mod_eq_zero a;have h1:Nat.gcd (37^i) PP=PP:=Nat.gcd_eq_right this;rw[aCP i]at h1;exact absurd h1 d_
def aHP:0<PP:=d_
def aJS:NN+1=PP:=d_
def aHQ(n:Nat)(c:n+1=PP)(e:n<=NN){x:Nat}(h0:0<x)(a:x<PP):∃i,x=37^i%PP:=by
 have:=Wc (L:=(List.range n).map λi=>37^i%PP) (n:=PP) (by rw[aP,QK];exact c) (aCR n e) (aFh n) (λy b=>by
  obtain⟨i,_,rfl⟩:=dF.1 b
  exact zM _ aHP) h0 a
 obtain⟨i,_,d⟩:=dF.1 this;exact⟨i,d.symm⟩
def aFi{x:Nat}(h0:0<x)(a:x<PP):∃i,x=37^i%PP:=aHQ NN aJS (cN _) h0 a
def aCS{x:Nat}(h:x%PP≠0):x^NN%PP=1:=by obtain⟨i,a⟩:=aFi (x:=x%PP) o_ (zM _ d_);rw[Kn,a,<-Kn,<-IA,QP,IA,Kn,aGX,Nat.one_pow];decide
def aFj{x y:Nat}(h:x*y%PP=0):x%PP=0\/y%PP=0:=by
 by_cases a:x%PP=0;exact .inl a;refine .inr ?_;have h1:=aCS a;have e:x^NN=x^(NN-1)*x:=by rw[<-QM];rfl
 have:x^NN*y%PP=0:=by rw[e,aBZ,CY,h,aGN,Nat.zero_mod]
 rw[CY,h1,Km,Mn]at this;exact this
end Hud
namespace Hud
instance:NeZero PP:=⟨d_⟩
abbrev Fq:=Fin PP
def aFk{a b:Fq}(h:a*b=0):a=0\/b=0:=by
 have h1:(a*b).val=0:=oe;rw[Fin.val_mul]at h1;rcases aFj h1 with h2|h2;left;apply Fin.ext;rw[EZ a.isLt]at h2;simpa using h2;right;apply Fin.ext;rw[EZ b.isLt]at h2;simpa using h2
def Jy(a:Fq)(n:Nat):(a^n).val=a.val^n%PP:=m_
def aAo{a:Fq}(h:a≠0):a^NN=1:=by apply Fin.ext;rw[Jy,aCS];rfl;rw[EZ a.isLt];simp_all
def inv(a:Fq):Fq:=a^(NN-1)
def aNv:(1:Fq)≠0:=d_
def ev:List Fq->Fq->Fq|[],_=>0|c::l,t=>c+t*ev l t
def zp(l:List Fq):Prop:=∀c∈l,c=0
def sd(z:Fq):List Fq->List Fq|[]=>[]|[_]=>[]|_::d::l=>ev (d::l) z::sd z (d::l)
def pa:List Fq->List Fq->List Fq|[],q=>q|p,[]=>p|c::p,d::q=>(c+d)::pa p q
def ps(c:Fq)(p:List Fq):List Fq:=p.map (c*·)
def pm:List Fq->List Fq->List Fq|[],_=>[]|c::p,q=>pa (ps c q) (0::pm p q)
def pr:List Fq->List Fq|[]=>[1]|z::R=>pm [-z,1] (pr R)
end Hud
namespace Hud
end Hud
namespace Hud
end Hud
namespace Hud
def MD(x:Fq)(n:Nat):x^n=(x*x)^(n/2)*x^(n%2):=by
 have a:∀m k:Nat,x^(2*m+k)=(x*x)^m*x^k:=by
  intro m
  induction m with
  |zero=>
   grind
  |succ m ih=>
   intro k;have b:∀(x:Fq)(k:Nat),x^(k+1)=x^k*x:=λx k=>m_;grind
 rw[<-a,QL]
def pw0(x:Fq):x^0=1:=m_
def pw1(x:Fq):x^1=x:=m_
def Wd(x:Fq)(a b:Nat):x^(a+b)=x^a*x^b:=m_
end Hud
