import Derived.WalkKit
set_option linter.all false
namespace Hud
open Go
theorem o_{p:Prop}(h:p:=by omega):p:=h
theorem d_{p:Prop}(h:p:=by rw[aJ (by omega) (by omega)];omega):p:=h
theorem s_{p:Prop}(h:p:=by decide):p:=h
theorem k_{p:Prop}(h:p:=by simp):p:=h
theorem a_{p:Prop}(h:p:=by simp only[go_sem]):p:=h
theorem g_{p:Prop}(h:p:=by unfold maxLen;omega):p:=h
theorem r_{p:Prop}(h:p:=by kernel_rfl):p:=h
theorem t_{p:Prop}(h:p:=by simp_all[pS]):p:=h
theorem u_{p:Prop}(h:p:=by simp only[go_sem,TG,MG]):p:=h
theorem h_{p:Prop}(h:p:=by simp only[go_sem,aM,TG,MG]):p:=h
theorem f_{p:Prop}(h:p:=by simp;omega):p:=h
theorem m_{p:Prop}(h:p:=by grind):p:=h
theorem n_{p:Prop}(h:p:=by simpa using h):p:=h
theorem l_{p:Prop}(h:p:=by simp only[go_sem,cv]):p:=h
theorem p_{p:Prop}(h:p:=by obtain⟨D,n⟩:=yK;simp[Op.equal,n,Op.equalIn,run_underlying B]):p:=h
theorem c_{p:Prop}(h:p:=by simp_all;omega):p:=h
theorem b_{p:Prop}(h:p:=by simp[gP,LG,PS,MM,iZ]):p:=h
theorem e_{p:Prop}(h:p:=by simp_all):p:=h
theorem i_{p:Prop}(h:p:=by rw[d];rfl):p:=h
theorem j_{p:Prop}(h:p:=by simp only[go_sem,aM,TG,MG,cv]):p:=h
theorem v_{p:Prop}(h:p:=by simp[gP,LG,Td,Bd,xF,aE4 g,aJK (cN _)]):p:=h
theorem w_{p:Prop}(h:p:=by simp only[fX]):p:=h
theorem x_{p:Prop}(h:p:=by simp[Rp]):p:=h
theorem y_{p:Prop}(h:p:=by simp[execOp,resolve,invoke,builtin]):p:=h
theorem z_{p:Prop}(h:p:=by simp[aM]):p:=h
theorem A_{p:Prop}(h:p:=by simp at h;omega):p:=h
theorem D_{p:Prop}(h:p:=by unfold Func.isWrapper;first|(rw[if_pos (by decide +kernel)];kernel_rfl)|(rw[if_neg (by decide +kernel)];exact⟨rfl,rfl⟩)):p:=h
theorem S_{p:Prop}(h:p:=by show _<2305843009213693951;omega):p:=h
theorem K_{p:Prop}(h:p:=by rfl):p:=h
theorem G_{p:Prop}(h:p:=by simp at h;unfold maxLen;omega):p:=h
theorem R_{p:Prop}(h:p:=by simpa using t):p:=h
theorem T_{p:Prop}(h:p:=by have:=aJa (f:=NodeM.B) (l:=o.Path) (k:=4020) λx h=>I6 (a.path.2 x h);have:=a.path.1;omega):p:=h
theorem U_{p:Prop}(h:p:=by have:=aJa (f:=SealM.B) (l:=o.Hist) (k:=1040) λx h=>I7 (a.hist.2 x h);have:=a.hist.1;omega):p:=h
theorem H_{p:Prop}(h:p:=by simp only[FP];omega):p:=h
theorem F_{p:Prop}(h:p:=by have:=c.2.2.2.1;omega):p:=h
theorem M_{p:Prop}(h:p:=by simp only[go_sem];rfl):p:=h
theorem P_{p:Prop}(h:p:=by rintro r ⟨v,w',h',φ',m1,m2,m3,m4⟩;rw[cL]at m4;exact⟨v,w',h',φ',m1,ar.trans m2,m3,m4⟩):p:=h
theorem C_{p:Prop}(h:p:=by rintro r ⟨v,w',h',φ',m1,m2,m3,m4⟩;rw[cL]at m4;exact⟨v,w',h',φ',m1,ax.trans m2,m3,m4⟩):p:=h
theorem B_{p:Prop}(h:p:=by simpa using b):p:=h
theorem E_{p:Prop}(h:p:=by simpa using e):p:=h
theorem O_{p:Prop}(h:p:=by simp only[Rp];exact⟨#[],rfl,by simp[kR]⟩):p:=h
theorem I_{p:Prop}(h:p:=by refine h.all u (Q:=λx=>c.getD p 0<=x) λk D C=>?_;rcases e with S|S;omega;grind):p:=h
theorem J_{p:Prop}(h:p:=by refine q.all A (Q:=λx=>c.getD p 0<=x) λk J I=>?_;rcases j with Y|Y;omega;grind):p:=h
theorem V_{p:Prop}(h:p:=by first|exact cN _|exact Kl _|assumption):p:=h
theorem W_{p:Prop}(h:p:=by have:=aJa (f:=Id.B) (l:=o.Past) (k:=30) λx _=>Id.B_len x;have:=a.past.1;omega):p:=h
theorem X_{p:Prop}(h:p:=by rw[aP];omega):p:=h
theorem Y_{p:Prop}(h:p:=by rw[eC];omega):p:=h
theorem Z_{p:Prop}(h:p:=by have:=aJa (f:=BoxM.B) (l:=o.Boxes) (k:=40) λx _=>MJ x;have:=a.boxes.1;omega):p:=h
theorem oo{p:Prop}(h:p:=by have:=aJa (f:=bN) (l:=o.Guards) (k:=10) λx _=>bX x;have:=a.guards.1;omega):p:=h
theorem od{p:Prop}(h:p:=by simp only[aE5,xH,forall_eq,VR,dF];rintro e ⟨b,_,rfl⟩ c V;exact⟨_,aE5.1 V⟩):p:=h
theorem og{p:Prop}(h:p:=by intro j a h;omega):p:=h
theorem ot{p:Prop}(h:p:=by rw[b i t];exact a):p:=h
theorem ou{p:Prop}(h:p:=by show(0:Int)<=o.By;omega):p:=h
theorem oh{p:Prop}(h:p:=by have:=aJa (f:=gJ) (l:=o.Refs) (k:=10) λx _=>iP x;have:=a.refs.1;omega):p:=h
theorem oc{p:Prop}(h:p:=by simp only[dZ];omega):p:=h
theorem oe{p:Prop}(h:p:=by simpa using a):p:=h
theorem ov{p:Prop}(h:p:=by simp only[ps,aP];omega):p:=h
theorem ox{p:Prop}(h:p:=by decide +kernel):p:=h
theorem oy{p:Prop}(h:p:=by rw[j];obtain⟨D,f⟩:=yK;simp[Op.equal,f,Op.equalIn,run_underlying l]):p:=h
theorem oz{p:Prop}(h:p:=by unfold rD;rw[dZ];have:=bX (o.Body.length:Int);have:=a.body.1;omega):p:=h
theorem oO{p:Prop}(h:p:=by simp at e):p:=h
theorem oW{p:Prop}(h:p:=by simpa using c):p:=h
theorem dg{p:Prop}(h:p:=by simpa using g):p:=h
theorem dt{p:Prop}(h:p:=by rw[f g (by rw[t];rfl)];exact B):p:=h
theorem du{p:Prop}(h:p:=by rw[if_neg (by omega)];simp[iG]):p:=h
theorem dh{p:Prop}(h:p:=by rw[Dq _ l i a];simp only[lq2]):p:=h
theorem dn{p:Prop}(h:p:=by simp[Instr.findKey,run_underlying b,h2]):p:=h
theorem dp{p:Prop}(h:p:=by rw[hij];exact h1):p:=h
theorem dc{p:Prop}(h:p:=by rw[dZ];omega):p:=h
theorem db{p:Prop}(h:p:=by simp[a]):p:=h
theorem de{p:Prop}(h:p:=by simpa using f):p:=h
theorem di{p:Prop}(h:p:=by rw[iG];exact n j v H):p:=h
theorem dw{p:Prop}(h:p:=by simp[Rp,goInt]):p:=h
theorem dx{p:Prop}(h:p:=by simpa using h2):p:=h
theorem dD{p:Prop}(h:p:=by simpa using hj):p:=h
theorem dS{p:Prop}(h:p:=by simp[b]):p:=h
theorem dK{p:Prop}(h:p:=by unfold maxLen at hm;omega):p:=h
theorem dH{p:Prop}(h:p:=by rw[QM]at h;omega):p:=h
theorem dB{p:Prop}(h:p:=by unfold maxLen at X;omega):p:=h
theorem d7{p:Prop}(h:p:=by rw[p];exact q):p:=h
theorem d8{p:Prop}(h:p:=by simpa using d):p:=h
theorem d9{p:Prop}(h:p:=by simpa using j):p:=h
theorem so{p:Prop}(h:p:=by split<;>omega):p:=h
theorem ss{p:Prop}(h:p:=by simp only[T2,go_sem,MG]):p:=h
theorem sk{p:Prop}(h:p:=by rw[aJu];simp only[ps,aP];omega):p:=h
theorem sa{p:Prop}(h:p:=by intro j N h;omega):p:=h
theorem sg{p:Prop}(h:p:=by intro j d h;omega):p:=h
theorem sr{p:Prop}(h:p:=by intro j m h;omega):p:=h
theorem sf{p:Prop}(h:p:=by rw[a];rfl):p:=h
theorem sm{p:Prop}(h:p:=by simp[AM,PGM.I]):p:=h
theorem sc{p:Prop}(h:p:=by simp[kM]):p:=h
theorem se{p:Prop}(h:p:=by simp[kR]):p:=h
theorem si{p:Prop}(h:p:=by simpa using B):p:=h
theorem sj{p:Prop}(h:p:=by simpa using k):p:=h
theorem sD{p:Prop}(h:p:=by simpa using z):p:=h
theorem sS{p:Prop}(h:p:=by simp[nwM]):p:=h
theorem sT{p:Prop}(h:p:=by rw[GD];omega):p:=h
abbrev O7:=@Option.some.injEq
abbrev O4:=List Int
abbrev O3:=List Nat
abbrev sW:=@List.getElem?_cons_zero
abbrev oX:=@List.getElem?_cons_succ
abbrev Ae:=@List.eq_nil_of_length_eq_zero
abbrev jC:=@List.cons_append
abbrev BT:=@List.getElem?_take
abbrev Hw:=@List.getElem?_drop
abbrev Hx:=@List.getElem?_set
abbrev Gp:=@Nat.succ_mul
abbrev cN:=@Nat.le_refl
abbrev uR:=@Nat.le_trans
abbrev CV:=@Nat.lt_of_lt_of_le
abbrev eD:=@Nat.lt_or_ge
abbrev sX:=@List.getElem?_eq_none
abbrev fG:=@List.map_cons
abbrev gE:=@List.getElem?_map
abbrev mG:=@Nat.add_zero
abbrev aGD:=@Bool.and_assoc
abbrev Ri:=@Array.getElem?_eq_getElem
abbrev jJ:=@Bool.false_eq_true
abbrev vY:=@List.length_drop
abbrev dZ:=@List.length_append
abbrev GV:=@Array.length_toList
abbrev Kg:=@List.drop_drop
abbrev yH:=@Bool.and_true
abbrev zK:=@List.flatten_cons
abbrev LB:=@List.drop_of_length_le
abbrev dM:=@List.nil_append
abbrev sE:=@List.length_cons
abbrev sY:=@Nat.add_assoc
abbrev EY:=@Array.toList_inj
abbrev jN:=@List.getElem?_eq_getElem
abbrev xE:=@Nat.add_mul
abbrev Hz:=@Array.getElem?_eq_none
abbrev Kl:=@Nat.le_succ
abbrev cL:=@List.length_set
abbrev oD:=@List.all_eq_true
abbrev CW:=@List.foldl_cons
abbrev uP:=@List.map_nil
abbrev cS:=@List.mem_cons
abbrev aBI:=@Option.isSome_iff_exists
abbrev Mi:=@Option.getD_some
abbrev dF:=@List.mem_map
abbrev rI:=@List.map_map
abbrev aBS:=@Array.mapM_eq_mapM_toList
abbrev eC:=@List.length_take
abbrev Kd:=@List.mem_of_getElem?
abbrev mY:=@List.getElem?_append_left
abbrev EZ:=@Nat.mod_eq_of_lt
abbrev Mc:=@List.getElem?_append_right
abbrev Km:=@Nat.one_mul
abbrev EW:=@List.ext_getElem?
abbrev zM:=@Nat.mod_lt
abbrev sG:=@List.take_of_length_le
abbrev yG:=@List.set_cons_succ
abbrev aGH:=@List.take_length_add_append
abbrev X3:=@List.drop_length_add_append
abbrev lq2:=@List.append_assoc
abbrev Mj:=@List.take_take
abbrev Tb:=@Nat.le_zero
abbrev Gn:=@List.size_toArray
abbrev Kh:=@List.mem_flatten
abbrev QF:=@List.getElem?_of_mem
abbrev eQ:=@List.getElem_mem
abbrev aOo:=@Nat.mul_le_mul_right
abbrev aGK:=@List.mem_or_eq_of_mem_set
abbrev cG:=@List.mem_append
abbrev C8:=@List.mem_of_mem_take
abbrev QG:=@List.mem_of_mem_drop
abbrev aBO:=@List.drop_succ_cons
abbrev QI:=@List.take_succ_cons
abbrev TV:=@Array.toList_append
abbrev YL:=@List.take_left
abbrev H3:=@List.length_pos_iff
abbrev gQ:=@List.length_nil
abbrev pQ:=@Nat.zero_add
abbrev zJ:=@Bool.and_eq_true
abbrev YG:=@Array.empty_append
abbrev Kf:=@List.flatten_append
abbrev vQ:=@List.nodup_append
abbrev QH:=@List.range_succ
abbrev Mk:=@List.range_zero
abbrev iX:=@Option.map_some
abbrev H6:=@Option.bind_some
abbrev rH:=@List.getD_eq_getElem?_getD
abbrev BU:=@List.nodup_cons
abbrev X8:=@List.append_eq_nil_iff
abbrev pR:=@Nat.zero_le
abbrev QA:=@Array.eq_empty_of_size_eq_zero
abbrev YD:=@Array.toArray_toList
abbrev mF:=@Bool.true_and
abbrev bZ:=@List.map_append
abbrev QO:=@Nat.sub_zero
abbrev aGL:=@List.all_nil
abbrev TW:=@List.replicate_succ
abbrev QE:=@List.length_replicate
abbrev YH:=@List.map_replicate
abbrev X5:=@Array.getElem?_append_left
abbrev YA:=@Array.getElem?_modify
abbrev B9:=@List.flatten_nil
abbrev X7:=@List.eraseIdx_cons_succ
abbrev gR:=@List.mem_filter
abbrev aP:=@List.length_map
abbrev aQ6:=@List.getElem?_eq_some_iff
abbrev YM:=@List.eq_of_mem_replicate
abbrev aBP:=@List.replicate_zero
abbrev jO:=@List.append_nil
abbrev LC:=@List.take_append_drop
abbrev aE5:=@List.mem_singleton
abbrev TY:=@List.take_left'
abbrev Kc:=@List.drop_eq_getElem_cons
abbrev Bb:=@Nat.mul_one
abbrev TZ:=@List.drop_zero
abbrev TR:=@Array.getD_eq_getD_getElem?
abbrev LD:=@List.map_congr_left
abbrev H7:=@List.mem_flatMap
abbrev uM:=@List.mem_range
abbrev aGI:=@Array.getElem?_eq_some_iff
abbrev CX:=@List.any_eq_true
abbrev Ec:=@Bool.or_eq_true
abbrev lI:=@Bool.not_true
abbrev EX:=@Bool.not_eq_true'
abbrev JW:=@List.contains_eq_mem
abbrev X9:=@Option.map_eq_some_iff
abbrev GU:=@List.mem_cons_of_mem
abbrev aBJ:=@List.mem_filterMap
abbrev aO8:=@Bool.eq_iff_iff
abbrev aGM:=@List.isEmpty_iff
abbrev TS:=@List.eq_nil_iff_forall_not_mem
abbrev QB:=@Classical.byContradiction
abbrev EV:=@List.mem_cons_self
abbrev C9:=@List.getElem_inj
abbrev Rg:=@List.length_eraseIdx_of_lt
abbrev Mg:=@List.mem_of_find?_eq_some
abbrev aGO:=@List.find?_some
abbrev Eb:=@List.find?_eq_none
abbrev aBT:=@List.nodup_range
abbrev aBU:=@Array.size_setIfInBounds
abbrev H5:=@List.pairwise_cons
abbrev fI:=@Eq.trans
abbrev uQ:=@List.take_zero
abbrev aBY:=@Bool.and_self
abbrev sF:=@Bool.not_false
abbrev xD:=@Option.map_none
abbrev nI:=@Int.toNat_natCast
abbrev QK:=@List.length_range
abbrev EB:=@Bool.or_false
abbrev Ed:=@Bool.or_true
abbrev EI:=@Bool.true_or
abbrev EH:=@Bool.false_or
abbrev lR:=@Bool.false_and
abbrev Ea:=@Bool.and_false
abbrev YB:=@List.Perm.append_left
abbrev aBQ:=@List.getElem?_range
abbrev Ad:=@List.findIdx?_eq_some_iff_getElem
abbrev YP:=@Nat.testBit_or
abbrev aBH:=@List.perm_ext_iff_of_nodup
abbrev Ki:=@List.ext_getElem
abbrev TX:=@Nat.or_lt_two_pow
abbrev aBW:=@Nat.and_le_left
abbrev Md:=@List.findIdx?_eq_none_iff
abbrev CU:=@List.getElem_of_mem
abbrev aBK:=@Nat.zero_testBit
abbrev Gl:=@Nat.pow_le_pow_right
abbrev pP:=@List.not_mem_nil
abbrev bP:=@Nat.lt_irrefl
abbrev vP:=@Bool.not_eq_eq_eq_not
abbrev QM:=@Nat.pow_succ
abbrev IA:=@Nat.pow_mul
abbrev aBX:=@Nat.pow_add
abbrev CY:=@Nat.mul_mod
abbrev Kn:=@Nat.pow_mod
abbrev Mn:=@Nat.mod_mod
abbrev aBZ:=@Nat.mul_assoc
abbrev QP:=@Nat.mul_comm
abbrev QJ:=@Nat.lt_of_le_of_lt
abbrev Ml:=@Nat.div_le_self
abbrev Me:=@Nat.Coprime.mul_right
abbrev QL:=@Nat.div_add_mod
abbrev Gm:=@List.filter_eq_self
abbrev Rh:=@List.nodup_iff_pairwise_ne
abbrev Mh:=@List.pairwise_map
abbrev TU:=@List.Pairwise.imp_of_mem
abbrev aGN:=@Nat.mul_zero
abbrev YI:=@BitVec.toNat_and
abbrev aGE:=@Nat.and_two_pow_sub_one_eq_mod
abbrev Tc:=@Nat.add_mod
abbrev aJh:=@Nat.mul_le_mul
abbrev TT:=@List.mem_take_iff_getElem
abbrev JX:=@Nat.eq_zero_or_pos
abbrev aGF:=@List.getElem!_eq_getElem?_getD
abbrev H4:=@List.mergeSort_perm
abbrev lq8:=@List.take_succ_eq_append_getElem
abbrev dE:=@List.take_length
abbrev Hy:=@List.foldl_append
abbrev Kj:=@Nat.min_eq_left
abbrev QN:=@List.map_take
abbrev aC0:=@List.map_drop
abbrev zL:=@List.getElem_map
abbrev Mm:=@List.nodup_nil
abbrev YJ:=@List.perm_middle
abbrev Kk:=@List.foldl_nil
abbrev Ke:=@List.getLast?_concat
abbrev YK:=@List.all_append
abbrev H9:=@Nat.le_of_lt
abbrev QQ:=@Nat.lt_trans
abbrev YF:=@Nat.mul_le_mul_left
abbrev Ta:=@Nat.ne_of_gt
abbrev aBG:=@List.find?_eq_some_iff_getElem
abbrev aBN:=@Nat.pow_lt_pow_right
abbrev aGC:=@List.length_zipWith
abbrev aJg:=@List.getElem_zipWith
abbrev aBL:=@List.set_append_right
abbrev YN:=@Nat.sub_self
abbrev Ba:=@List.map_set
abbrev aGB:=@List.set_eq_take_append_cons_drop
abbrev Rf:=@List.take_append_of_le_length
abbrev aGG:=@List.drop_append_of_le_length
abbrev H8:=@Nat.lt_of_not_le
abbrev YO:=@Nat.le_of_not_lt
abbrev QD:=@List.pairwise_iff_getElem
abbrev aBR:=@List.idxOf_lt_length_of_mem
abbrev Mf:=@List.filter_append
abbrev YC:=@List.getElem_set_self
abbrev GT:=@List.length_singleton
abbrev YE:=@Bool.or_eq_false_iff
abbrev aBM:=@Bool.and_eq_false_iff
abbrev aGJ:=@Nat.lt_trichotomy
abbrev X4:=@List.attach_map_subtype_val
abbrev aBV:=@List.take_append_getElem
abbrev Ko:=@Nat.beq_eq
abbrev X6:=@Int.tmod_eq_emod_of_nonneg
abbrev O5:=List Value
inductive AV where
 |v (x:Value)|ls (k:Nat) (es:List (List AV))|ag (cs:List AV)|own (i:Nat)|ptr (i off:Nat)|elt (i k j off:Nat)|vw (i k lo n:Nat)|mp (i:Nat)|yl (i:Nat)|bm (f k:Nat) (cs:List AV)|rp (cs:List AV)|cl (f:Nat) (caps:List AV)|tup (vs:List AV)|any
 deriving Inhabited
abbrev iv(n:Int):AV:=.v (.int .i64 n)
abbrev uv(n:Nat):AV:=.v (.int .u64 (n:Int))
abbrev O0:=List AV
abbrev N_:=List (List AV)
abbrev L_:=Nat->Option (List AV)
def aX:AV->Bool|.v (.agg _)=>false|.v (.tuple _)=>false|.v _=>true|.ls _ _=>true|_=>false
def gS:AV->Bool|.v (.agg _)=>false|.v (.tuple _)=>false|.v _=>true|.ls _ _=>true|.own _=>true|.ptr _ _=>true|.elt _ _ _ _=>true|.vw _ _ _ _=>true|.mp _=>true|.yl _=>true|.bm _ _ _=>true|.cl _ _=>true|.rp _=>true|_=>false
abbrev GH:=Nat->Option (Array Value)
def oY(h:GH)(b o:Nat):Option Value:=(h b).bind (·[o]?)
mutual
def oB(h:GH):AV->Value->Prop|.v x,u=>u=x|.ls k a,u=>∃A c,u=.slice A a.length c/\a.length<=c/\c<=maxLen/\(a=[]\/∃b o,A=some ⟨b,o,none⟩/\kF h b k a o)|.ag e,u=>∃d:Array Value,u=.agg d/\cK h e d.toList|.any,_=>True|_,_=>False
def kF(h:GH)(b k:Nat):N_->Nat->Prop|[],_=>True|e::a,o=>e.length=k/\mR h b e o/\kF h b k a (o+k)
def mR(h:GH)(b:Nat):O0->Nat->Prop|[],_=>True|c::a,o=>(∃u,aX c=true/\oY h b o=some u/\oB h c u)/\mR h b a (o+1)
def cK(h:GH):O0->O5->Prop|[],b=>b=[]|c::d,b=>∃u a,b=u::a/\oB h c u/\cK h d a
end
mutual
def Rp(h:GH)(φ:Nat->Value)(n:Nat):AV->Value->Prop|.v x,u=>u=x|.ls k s,u=>oB h (.ls k s) u|.ag p,u=>∃a:Array Value,u=.agg a/\kR h φ n p a.toList|.own i,u=>i<n/\u=φ i/\∃A l c,u=.slice A l c|.ptr i e,u=>i<n/\∃g,φ i=.pointer (some ⟨g,0,none⟩)/\u=.pointer (some ⟨g,e,none⟩)|.elt i k j e,u=>i<n/\∃g l c,φ i=.slice (some ⟨g,0,none⟩) l c/\u=.pointer (some ⟨g,j*k+e,none⟩)|.mp i,u=>i<n/\u=φ i/\∃g,u=.map (some g)|.yl i,u=>i<n/\u=φ i/\∃l,u=.func (.yield l) #[] #[]|.bm f k d,u=>∃a:Array Value,u=.func (.func f) (a.toList.take k).toArray (a.toList.drop k).toArray/\kR h φ n d a.toList|.vw i k q m,u=>i<n/\∃A c,u=.slice A m c/\m<=c/\c<=maxLen/\(m=0\/∃g l t,φ i=.slice (some ⟨g,0,none⟩) l t/\A=some ⟨g,q*k,none⟩/\q+m<=l)|.rp p,u=>∃b o,u=.pointer (some ⟨b,o,none⟩)/\mR h b p o|.cl f d,u=>∃a:Array Value,u=.func (.func f) #[] a/\kR h φ n d a.toList|.tup r,u=>∃a:Array Value,u=.tuple a/\kR h φ n r a.toList|.any,_=>True
def kR(h:GH)(φ:Nat->Value)(n:Nat):O0->O5->Prop|[],b=>b=[]|c::d,b=>∃u a,b=u::a/\Rp h φ n c u/\kR h φ n d a
end
def CA(h h':GH):Prop:=∀b a,h b=some a->h' b=some a
def CA.refl(h:GH):CA h h:=λ_ _ e=>e
def CA.trans{a b c:GH}(h:CA a b)(k:CA b c):CA a c:=λx d e=>k x d (h x d e)
def CA.cell{h h':GH}(g:CA h h'){b o:Nat}{u:Value}(e:oY h b o=some u):oY h' b o=some u:=by
 unfold oY at *
 cases a:h b with
 |none=>simp[a]at e|some c=>rw[a]at e;rw[g b c a];exact e
mutual
def oB.mono{h h':GH}(g:CA h h'):∀{x:AV}{u:Value},oB h x u->oB h' x u
 |.v _,_,e=>by simpa[oB]using e|.ls k l,u,e=>by
  simp only[oB]at e⊢;obtain⟨A,c,a,h2,j,i⟩:=e;exact⟨A,c,a,h2,j,i.imp id λ⟨b,o,hA,f⟩=>⟨b,o,hA,kF.mono g f⟩⟩
 |.ag m,u,e=>by
  simp only[oB]at e⊢;obtain⟨d,a,h2⟩:=e;exact⟨d,a,cK.mono g h2⟩
 |.any,_,_=>by simp[oB]|.own _,_,e=>by simp[oB]at e|.ptr _ _,_,e=>by simp[oB]at e|.elt _ _ _ _,_,e=>by simp[oB]at e|.vw _ _ _ _,_,e=>by simp[oB]at e|.mp _,_,e=>by simp[oB]at e|.yl _,_,e=>by simp[oB]at e|.bm _ _ _,_,e=>by simp[oB]at e|.rp _,_,e=>by simp[oB]at e|.cl _ _,_,e=>by simp[oB]at e|.tup _,_,e=>by simp[oB]at e
def kF.mono{h h':GH}(g:CA h h'){b k:Nat}:∀{es:N_}{o:Nat},kF h b k es o->kF h' b k es o|[],_,_=>by simp[kF]|e::es,o,a=>by simp only[kF]at a⊢;exact⟨a.1,mR.mono g a.2.1,kF.mono g a.2.2⟩
def mR.mono{h h':GH}(g:CA h h'){b:Nat}:∀{cs:O0}{o:Nat},mR h b cs o->mR h' b cs o|[],_,_=>by simp[mR]|c::cs,o,a=>by simp only[mR]at a⊢;obtain⟨⟨u,f,e,h2⟩,d⟩:=a;exact⟨⟨u,f,g.cell e,oB.mono g h2⟩,mR.mono g d⟩
def cK.mono{h h':GH}(g:CA h h'):∀{cs:O0}{us:O5},cK h cs us->cK h' cs us|[],_,e=>by simpa[cK]using e|c::cs,us,b=>by simp only[cK]at b⊢;obtain⟨u,a,f,h2,d⟩:=b;exact⟨u,a,f,oB.mono g h2,cK.mono g d⟩
end
mutual
def Rp.mono{h h':GH}{φ j:Nat->Value}{n p:Nat}(g:CA h h')(m:n<=p)(a:∀i,i<n->j i=φ i):∀{x:AV}{u:Value},Rp h φ n x u->Rp h' j p x u
 |.v _,_,e=>by simpa[Rp]using e|.ls k s,u,e=>by simp only[Rp]at e⊢;exact oB.mono g e|.ag q,u,e=>by
  simp only[Rp]at e⊢;obtain⟨d,c,h2⟩:=e;exact⟨d,c,kR.mono g m a h2⟩
 |.any,_,_=>by simp[Rp]|.own i,_,e=>by simp only[Rp]at e⊢;exact⟨o_,by rw[a i e.1];exact e.2.1,e.2.2⟩|.ptr i _,_,e=>by simp only[Rp]at e⊢;exact⟨o_,by rw[a i e.1];exact e.2⟩|.elt i _ _ _,_,e=>by simp only[Rp]at e⊢;exact⟨o_,by rw[a i e.1];exact e.2⟩|.vw i _ _ _,_,e=>by simp only[Rp]at e⊢;exact⟨o_,by rw[a i e.1];exact e.2⟩|.mp i,_,e=>by simp only[Rp]at e⊢;exact⟨o_,by rw[a i e.1];exact e.2.1,e.2.2⟩|.yl i,_,e=>by simp only[Rp]at e⊢;exact⟨o_,by rw[a i e.1];exact e.2.1,e.2.2⟩|.bm f k l,u,e=>by
  simp only[Rp]at e⊢;obtain⟨d,c,h2⟩:=e;exact⟨d,c,kR.mono g m a h2⟩
 |.rp q,u,e=>by
  simp only[Rp]at e⊢;obtain⟨b,o,c,h2⟩:=e;exact⟨b,o,c,mR.mono g h2⟩
 |.cl f l,u,e=>by
  simp only[Rp]at e⊢;obtain⟨d,c,h2⟩:=e;exact⟨d,c,kR.mono g m a h2⟩
 |.tup r,u,e=>by simp only[Rp]at e⊢;obtain⟨d,c,h2⟩:=e;exact⟨d,c,kR.mono g m a h2⟩
def kR.mono{h h':GH}{φ a:Nat->Value}{n d:Nat}(g:CA h h')(j:n<=d)(f:∀i,i<n->a i=φ i):∀{cs:O0}{us:O5},kR h φ n cs us->kR h' a d cs us|[],_,e=>by simpa[kR]using e|c::cs,us,k=>by simp only[kR]at k⊢;obtain⟨u,b,m,h2,l⟩:=k;exact⟨u,b,m,Rp.mono g j f h2,kR.mono g j f l⟩
end
mutual
def oB.to{h:GH}{φ:Nat->Value}{n:Nat}:∀{x:AV}{u:Value},oB h x u->Rp h φ n x u
 |.v _,_,e=>by simpa[Rp,oB]using e|.ls k c,u,e=>by simp only[Rp];exact e|.ag d,u,e=>by
  simp only[oB]at e;simp only[Rp];obtain⟨a,b,h2⟩:=e;exact⟨a,b,cK.to h2⟩
 |.any,_,_=>by simp[Rp]|.own _,_,e=>by simp[oB]at e|.ptr _ _,_,e=>by simp[oB]at e|.elt _ _ _ _,_,e=>by simp[oB]at e|.vw _ _ _ _,_,e=>by simp[oB]at e|.mp _,_,e=>by simp[oB]at e|.yl _,_,e=>by simp[oB]at e|.bm _ _ _,_,e=>by simp[oB]at e|.rp _,_,e=>by simp[oB]at e|.cl _ _,_,e=>by simp[oB]at e|.tup _,_,e=>by simp[oB]at e
def cK.to{h:GH}{φ:Nat->Value}{n:Nat}:∀{cs:O0}{us:O5},cK h cs us->kR h φ n cs us|[],_,e=>by simpa[cK,kR]using e|c::cs,us,b=>by simp only[cK]at b;simp only[kR];obtain⟨u,a,f,h2,d⟩:=b;exact⟨u,a,f,oB.to h2,cK.to d⟩
end
def kR.length{h:GH}{φ:Nat->Value}{n:Nat}:∀{cs:O0}{us:O5},kR h φ n cs us->cs.length=us.length|[],us,e=>by simp only[kR]at e;subst e;rfl|c::cs,us,e=>by simp only[kR]at e;obtain⟨u,a,rfl,_,h⟩:=e;simp[h.length]
def cK.length{h:GH}:∀{cs:O0}{us:O5},cK h cs us->cs.length=us.length|[],us,e=>by simp only[cK]at e;subst e;rfl|c::cs,us,e=>by simp only[cK]at e;obtain⟨u,a,rfl,_,h⟩:=e;simp[h.length]
def kR.get{h:GH}{φ:Nat->Value}{n:Nat}:∀{cs:O0}{us:O5},kR h φ n cs us->∀{i:Nat}{c:AV},cs[i]?=some c->∃u,us[i]?=some u/\Rp h φ n c u
 |[],us,e,i,c,a=>by simp at a
 |d::cs,us,e,i,c,a=>by
  simp only[kR]at e;obtain⟨u,b,rfl,f,h2⟩:=e
  cases i with
  |zero=>simp only[sW,O7]at a;subst a;exact⟨u,k_,f⟩
  |succ i=>simp only[oX]at a⊢;exact h2.get a
def kR.mk{h:GH}{φ:Nat->Value}{n:Nat}:∀{cs:O0}{us:O5},cs.length=us.length->(∀(i:Nat)(c:AV)(u:Value),cs[i]?=some c->us[i]?=some u->Rp h φ n c u)->kR h φ n cs us|[],us,e,_=>by simp only[kR];exact Ae (by simpa using e.symm)|d::cs,[],e,_=>by simp at e|d::cs,u::us,e,a=>by simp only[kR];exact⟨u,us,rfl,a 0 d u k_ k_,kR.mk E_ λi c x f b=>a (i+1) c x de B_⟩
def kR.app{h:GH}{φ:Nat->Value}{n:Nat}{cs ds:O0}{us vs:O5}(a:kR h φ n cs us)(b:kR h φ n ds vs):kR h φ n (cs++ds) (us++vs):=by
 induction cs generalizing us with
 |nil=>simp only[kR]at a;subst a;simpa using b|cons c cs ih=>
  grind[kR]
def kR.take{h:GH}{φ:Nat->Value}{n:Nat}{cs:O0}{us:O5}(a:kR h φ n cs us)(m:Nat):kR h φ n (cs.take m) (us.take m):=
 kR.mk (by simp[a.length]) λi c u b d=>by rw[BT]at b d;split at b;rw[if_pos (by assumption)]at d;obtain⟨e,f,h2⟩:=a.get b;simp_all;simp at b
def kR.drop{h:GH}{φ:Nat->Value}{n:Nat}{cs:O0}{us:O5}(a:kR h φ n cs us)(m:Nat):kR h φ n (cs.drop m) (us.drop m):=
 kR.mk (by simp[a.length]) λi c u b d=>by rw[Hw]at b d;obtain⟨e,f,h2⟩:=a.get b;simp_all
def kR.set{h:GH}{φ:Nat->Value}{n:Nat}{cs:O0}{us:O5}(a:kR h φ n cs us){m:Nat}{c:AV}{u:Value}(k:Rp h φ n c u):kR h φ n (cs.set m c) (us.set m u):=
 kR.mk (by simp[a.length]) λi d x b e=>by have j:=a.length;rw[Hx]at b e;by_cases f:m=i;simp_all;simp only[f,if_false]at b e;obtain⟨g,l,h2⟩:=a.get b;simp_all
def cK.get{h:GH}:∀{cs:O0}{us:O5},cK h cs us->∀{i:Nat}{c:AV},cs[i]?=some c->∃u,us[i]?=some u/\oB h c u
 |[],us,e,i,c,a=>by simp at a
 |d::cs,us,e,i,c,a=>by
  simp only[cK]at e;obtain⟨u,b,rfl,f,h2⟩:=e
  cases i with
  |zero=>simp only[sW,O7]at a;subst a;exact⟨u,k_,f⟩
  |succ i=>simp only[oX]at a⊢;exact h2.get a
def cK.mk{h:GH}:∀{cs:O0}{us:O5},cs.length=us.length->(∀(i:Nat)(c:AV)(u:Value),cs[i]?=some c->us[i]?=some u->oB h c u)->cK h cs us|[],us,e,_=>by simp only[cK];exact Ae (by simpa using e.symm)|d::cs,[],e,_=>by simp at e|d::cs,u::us,e,a=>by simp only[cK];exact⟨u,us,rfl,a 0 d u k_ k_,cK.mk E_ λi c x f b=>a (i+1) c x de B_⟩
def mR.get{h:GH}{b:Nat}:∀{cs:O0}{o:Nat},mR h b cs o->∀{i:Nat}{c:AV},cs[i]?=some c->∃u,aX c=true/\oY h b (o+i)=some u/\oB h c u
 |[],_,_,i,c,f=>by simp at f
 |d::cs,o,e,i,c,f=>by
  simp only[mR]at e;obtain⟨⟨u,j,l,k⟩,h2⟩:=e
  cases i with
  |zero=>simp only[sW,O7]at f;subst f;exact⟨u,j,l,k⟩
  |succ i=>simp only[oX]at f;obtain⟨g,m,a,b⟩:=h2.get f;exact⟨g,m,by rw[<-a];congr 1;omega,b⟩
def mR.mk{h:GH}{b:Nat}:∀{cs:O0}{o:Nat},(∀(i:Nat)(c:AV),cs[i]?=some c->∃u,aX c=true/\oY h b (o+i)=some u/\oB h c u)->mR h b cs o|[],_,_=>by simp[mR]|d::cs,o,a=>by simp only[mR];exact⟨a 0 d k_,mR.mk λi c e=>by obtain⟨u,g,f,h2⟩:=a (i+1) c E_;exact⟨u,g,by rw[<-f];congr 1;omega,h2⟩⟩
def mR.drop{h:GH}{b:Nat}{cs:O0}{o:Nat}(a:mR h b cs o)(n:Nat):mR h b (cs.drop n) (o+n):=
 mR.mk λi c d=>by rw[Hw]at d;obtain⟨u,f,e,h2⟩:=a.get d;grind
def kF.get{h:GH}{b k:Nat}:∀{es:N_}{o:Nat},kF h b k es o->∀{j:Nat}{e:O0},es[j]?=some e->e.length=k/\mR h b e (o+j*k)
 |[],_,_,j,e,a=>by simp at a
 |d::es,o,c,j,e,a=>by
  simp only[kF]at c
  cases j with
  |zero=>simp only[sW,O7]at a;subst a;exact⟨c.1,by simpa using c.2.1⟩
  |succ j=>simp only[oX]at a;obtain⟨f,h2⟩:=c.2.2.get a;exact⟨f,by rw[show o+(j+1)*k=o+k+j*k from by rw[Gp];omega];exact h2⟩
def kF.mk{h:GH}{b k:Nat}:∀{es:N_}{o:Nat},(∀(j:Nat)(e:O0),es[j]?=some e->e.length=k/\mR h b e (o+j*k))->kF h b k es o|[],_,_=>by simp[kF]|d::es,o,a=>by simp only[kF];obtain⟨i,h2⟩:=a 0 d k_;exact⟨i,dx,kF.mk λj e f=>by obtain⟨g,c⟩:=a (j+1) e de;exact⟨g,by rw[show o+(j+1)*k=o+k+j*k from by rw[Gp];omega]at c;exact c⟩⟩
inductive AObj where
 |box (cs:List AV)|arr (k:Nat) (es:List (List AV))|arf (k:Nat) (es:List (List AV))|map (ag:Bool) (ks:List (List Value)) (vs:List AV) (bs:List Nat) (cl:Nat)|lp (r:Loop) (s:List (Nat×AV))|mit (m:Option Nat) (since:Nat) (seen:List Nat) (st:Nat)
 deriving Inhabited
abbrev aK:=List (Option AObj)
def kI:Value->Option Nat|.pointer (some a)=>some a.block|.slice (some a) _ (_+1)=>some a.block|.map (some g)=>some g|.func (.yield l) _ _=>some l|_=>none
def iY(ag:Bool)(xs:O5):Value:=if ag then .agg xs.toArray else xs.getD 0 undef
def uF (h:GH) (φ:Nat->Value) (n:Nat) (w:World) (i:Nat):AObj->Prop
 |.box z=>∃(g:Nat)(us:Array Value)(E:TypeId),φ i=.pointer (some ⟨g,0,none⟩)/\w.heap[g]?=some (.cells us E (0,0))/\h g=none/\kR h φ n z us.toList| .arr k d=>(∀e∈d,e.length=k/\∀c∈e,aX c=true)/\((∃A,φ i=.slice A 0 0/\d=[]) \/
   ∃(g c:Nat)(a:Array Value)(E:TypeId),φ i=.slice (some ⟨g,0,none⟩) d.length (c+1)/\w.heap[g]?=some (.cells a E (0,0))/\d.length<=c+1/\c+1<=maxLen/\a.size=(c+1)*k/\h g=none /\
    cK h d.flatten (a.toList.take (d.length*k)))
 | .arf k d=>(∀e∈d,e.length=k/\∀c∈e,gS c=true)/\((∃A,φ i=.slice A 0 0/\d=[]) \/
   ∃(g c:Nat)(a:Array Value)(E:TypeId),φ i=.slice (some ⟨g,0,none⟩) d.length (c+1)/\w.heap[g]?=some (.cells a E (0,0))/\d.length<=c+1/\c+1<=maxLen/\a.size=(c+1)*k/\h g=none /\
    kR h φ n d.flatten (a.toList.take (d.length*k)))
 |.lp r s=>∃l:Nat,φ i=.func (.yield l) #[] #[]/\w.heap[l]?=some (.loop r)/\h l=none/\(∀i x y,(i,x)∈s->(i,y)∈s->x=y)/\∀p∈s,Rp h φ n p.2 (r.tmps.getD p.1 undef)| .mit m f o u=>∃(g:Nat)(q:Option Nat),φ i=.pointer (some ⟨g,0,none⟩)/\w.heap[g]?=some (.mapIter q f o.toArray u)/\h g=none /\
   (match m with|none=>q=none|some j=>∃b,q=some b/\j<n/\φ j=.map (some b))
 | .map C v t bs B=>∃(g:Nat)(ens:Array MapEntry),φ i=.map (some g)/\w.heap[g]?=some (.map ens B)/\h g=none /\
   ens.toList.map (·.key)=v.map (iY C)/\ens.toList.map (·.born)=bs/\kR h φ n t (ens.toList.map (·.val))
structure Inv(h:GH)(φ:Nat->Value)(w:World)(T:aK):Prop where
 gh:∀b cs,h b=some cs->∃E fr,w.heap[b]?=some (.cells cs E fr)
 obj:∀i o,T[i]?=some (some o)->uF h φ T.length w i o
 dis:∀i j oi oj b,T[i]?=some (some oi)->T[j]?=some (some oj)->kI (φ i)=some b->kI (φ j)=some b->i=j
structure Evo(h:GH)(φ:Nat->Value)(T:aK)(w:World)(h':GH)(φ':Nat->Value)(T':aK)(w':World):Prop where
 os:w'.os=w.os
 tape:w'.tape=w.tape
 output:w'.output=w.output
 size:w.heap.size<=w'.heap.size
 frame:∀b,b<w.heap.size->(∀i o,T[i]?=some (some o)->kI (φ i)≠some b)->w'.heap[b]?=w.heap[b]?
 le:CA h h'
 gfr:∀b cs,h' b=some cs->h b=some cs\/w.heap.size<=b\/∃i o,T[i]?=some (some o)/\kI (φ i)=some b
 phi:∀i,i<T.length->φ' i=φ i
 org:∀i o b,T'[i]?=some (some o)->kI (φ' i)=some b->w.heap.size<=b\/∃j oj,T[j]?=some (some oj)/\kI (φ j)=some b
 len:T.length<=T'.length
 drawn:w.drawn<=w'.drawn
def Evo.refl{h:GH}{φ:Nat->Value}{T:aK}{w:World}:Evo h φ T w h φ T w :=
 ⟨rfl,rfl,rfl,cN _,λ_ _ _=>rfl,CA.refl h,λ_ _ e=>.inl e,λ_ _=>rfl,λi o b a c=>.inr ⟨i,o,a,c⟩,cN _,cN _⟩
def Evo.trans{h0 q h2:GH}{φ0 e d:Nat->Value}{T0 s T2:aK}{w0 w1 m:World}(a:Evo h0 φ0 T0 w0 q e s w1)(b:Evo q e s w1 h2 d T2 m):
 Evo h0 φ0 T0 w0 h2 d T2 m where
 os:=b.os.trans a.os
 tape:=b.tape.trans a.tape
 output:=b.output.trans a.output
 size:=uR a.size b.size
 frame:=λg l t=>by
  rw[b.frame g (CV l a.size) (λi o c k=>?_),a.frame g l t];rcases a.org i o g c k with h|⟨j,n,p,f⟩
  omega;simp_all
 le:=a.le.trans b.le
 gfr:=λg r l=>by
  rcases b.gfr g r l with h|h|⟨i,o,c,k⟩
  exact a.gfr g r h;exact .inr (.inl (uR a.size h));exact .inr (a.org i o g c k)
 phi:=λi c=>(b.phi i (CV c a.len)).trans (a.phi i c)
 org:=λi o g c k=>by
  rcases b.org i o g c k with h|⟨j,n,p,f⟩
  exact .inl (uR a.size h);exact a.org j n g p f
 len:=uR a.len b.len
 drawn:=uR a.drawn b.drawn
def tU(G:L_)(h:GH):Prop:=∀g a,G g=some a->mR h g a 0
def tU.mono{G:L_}{h h':GH}(a:tU G h)(g:CA h h'):tU G h':=λi b e=>(a i b e).mono g
def CS(h:GH)(φ:Nat->Value)(T:aK)(w:World)(post:AV->aK->Prop)(v:Value)(w':World):Prop :=
 ∃r b c a,post r b/\Evo h φ T w c a b w'/\Inv c a w' b/\Rp c a b.length r v
def aA(P:Program)(G:L_)(f:FuncId)(args:O0)(T:aK)(post:AV->aK->Prop):Prop :=
 ∀(h:GH)(φ:Nat->Value)(w:World)(a:Array Value),tU G h->Inv h φ w T->kR h φ T.length args a.toList ->
  ((callFunc f a).run P w=.ok (.enter f a) w/\Calls P f a w (λe b=>∃v,e=.returned v/\CS h φ T w post v b)) \/
  (∃v b,(callFunc f a).run P w=.ok (.value v) b/\CS h φ T w post v b)
def DA(P:Program)(G:L_)(i:Nat)(args:O0)(T:aK)(post:AV->aK->Prop):Prop :=
 ∀ (h:GH) (φ:Nat->Value) (w:World) (a:Array Value) (l:Nat),tU G h->Inv h φ w T->kR h φ T.length args a.toList->φ i=.func (.yield l) #[] #[] ->
  ∃(f:FuncId)(tmps:Array Value)(assign body:Code),(Instr.yield l a).run P w=.ok (.round l f tmps assign body) w /\
   RoundIn Fence.wide 0 P l f tmps assign body w (λe b=>∃v,e=.returned v/\CS h φ T w post v b)
def CS.mono{h:GH}{φ:Nat->Value}{T:aK}{w:World}{p q:AV->aK->Prop}{v:Value}{w':World}(a:CS h φ T w p v w')(d:∀r b,p r b->q r b):CS h φ T w q v w' :=
 let⟨r,b,e,c,g,f⟩:=a
 ⟨r,b,e,c,d _ _ g,f⟩
def DA.mono{P:Program}{G:L_}{i:Nat}{args:O0}{T:aK}{p q:AV->aK->Prop}(a:DA P G i args T p)(e:∀r j,p r j->q r j):DA P G i args T q :=
 λh k w b l n hI hA m=>
  let⟨f,c,g,d,o,h2⟩:=a h k w b l n hI hA m
  ⟨f,c,g,d,o,h2.mono λ_ _ ⟨v,t,s⟩=>⟨v,t,s.mono e⟩⟩
def aA.mono{P:Program}{G:L_}{f:FuncId}{args:O0}{T:aK}{p q:AV->aK->Prop}(a:aA P G f args T p)(d:∀r g,p r g->q r g):
 aA P G f args T q:=λh i w b k hI hA=>
 (a h i w b k hI hA).imp (λ⟨e,c⟩=>⟨e,c.mono λ_ _ ⟨v,m,l⟩=>⟨v,m,l.mono d⟩⟩) (λ⟨v,j,e,c⟩=>⟨v,j,e,c.mono d⟩)
inductive LK where
 |int (k:IntKind)|bool|str
 deriving DecidableEq,Inhabited
inductive HOp where
 |mov (x:Operand)|pick (c a b:Operand)|bin (op:BinOp) (x y:Operand)|eqa (neg:Bool) (ks:List LK) (x y:Operand)|eqb (neg:Bool) (x y:Operand)|un (op:UnOp) (x:Operand)|conv (k:IntKind) (x:Operand)
 |box (x:Operand)|alloc (z:List Value)|bld (z:List Value) (parts:List (Nat×Nat×Operand))|bsl (k:Nat) (z:List Value) (parts:List (Nat×Nat×Operand)) (len:Nat)|ld (n:Option Nat) (p:Operand)|st (n:Nat) (p x:Operand)|fad (p:Operand) (off:Nat)|fld (x:Operand) (off:Nat) (n:Option Nat)|iad (x ix:Operand) (k:Nat)|iadA (x ix:Operand) (len k:Nat)|ixS (x ix:Operand)|lenS (x:Operand)|lenL (x:Operand)|app (x y:Operand) (k bytes:Nat)|ext (x:Operand) (i:Nat)|clo (f:FuncId) (caps:List Operand)|call (f:Operand) (args:List Operand)|nilc (x:Operand)|slc (x:Operand) (lo hi:Option Operand) (k:Nat)|slcS (x:Operand) (lo hi:Option Operand)|nilS (neg:Bool) (kind:Nat) (x:Operand)|mm (max:Bool) (x y:Operand)|mkm (ag:Bool)|lku (ag:Bool) (ls:List LK) (z:Value) (m k:Operand) (ok:Bool)|mup (ag:Bool) (ls:List LK) (m k x:Operand)|men (ag:Bool) (ls:List LK) (z:Value) (m k:Operand)|mst (m s x:Operand)|del (ag:Bool) (ls:List LK) (m k:Operand)|lenM (m:Operand)|mks (k:Nat) (z:List Value) (bytes:Nat) (x y:Operand)|s2b (x:Operand)|b2s (x:Operand)|apS (x y:Operand)|slx (x:Operand) (lo:Option Operand) (hi mx:Operand) (k:Nat)|bmo (f:FuncId) (k:Nat) (caps:List Operand)|rgm (m:Operand)|nxt (p:Operand)|ent (p:Operand)|bad|clr (x:Operand) (k:Nat) (z:List Value)|bslS (k:Nat) (z:List Value) (parts:List (Nat×Nat×Operand)) (len:Nat)|b2b (x:Operand)
 deriving Inhabited
structure HOper where
 dst:Option Nat
 op:HOp
 guard:Option (Nat×Bool)
 deriving Inhabited
inductive HD where
 |done (gc:Bool)|no|q (o:HOper) (next:HD)|alt (o:HOper) (chk:List HOper) (next other:HD)|perm (chk ops:List HOper) (next:HD)|plan (hops:List HOper) (pre:List (List Nat)) (n:Nat) (gc:Bool) (E:List Nat)
 deriving Inhabited
inductive HC where
 |skip|reg (ops:List HOper)|regd (d:HD)|seq (a b:HC)|cond (c:Operand) (a b:HC)|block (id:Nat) (a:HC)|loop (drop:List Nat) (a:HC)|exit (id:Nat)|ret|kill (d:List Nat)|own (j:Nat) (c:Option Nat) (k:Nat)|shut (j:Nat)|rng (g:Operand) (ps d:List Nat) (a b:HC)
 deriving Inhabited
structure St where
 r:Nat
 s:List (Nat×AV)
 T:aK
 deriving Inhabited
def bA:List (Nat×AV)->Nat->AV|[],_=>.any|(i,x)::r,j=>if i=j then x else bA r j
def LE:List (Nat×AV)->Nat->List (Nat×AV)|[],_=>[]|(i,x)::r,j=>if i=j then LE r j else(i,x)::LE r j
def GW(l:List (Nat×AV))(j:Nat)(x:AV):List (Nat×AV):=(j,x)::LE l j
def fV(l:List (Nat×AV))(d:Option Nat)(x:AV):List (Nat×AV):=match d with|some j=>GW l j x|none=>l
def dW(G:L_)(s:List (Nat×AV)):Operand->AV
 |.tmp t=>bA s t|.const x=>.v x|.global g=>match G g with|some a=>.rp a|none=>.any
 |.func f=>.cl f []
def sZ:Option AObj->Option (Nat×N_×Bool)|some (.arr k a)=>some (k,a,true)|some (.arf k a)=>some (k,a,false)|_=>none
def jE:Bool->Nat->N_->AObj|true,k,a=>.arr k a|false,k,a=>.arf k a
def PO:Bool->AV->Bool|true,c=>aX c|false,c=>gS c
def cR(T:aK)(i:Nat):Option AObj:=match T[i]? with|some (some o)=>some o|_=>none
def dT:AV->O0|.ag b=>b|.v (.agg a)=>a.toList.map .v|x=>[x]
def Vu:AV->Option O0|.ag b=>some b|.v (.agg a)=>some (a.toList.map .v)|_=>none
def Mo(cs:O0)(off:Nat):Option Nat->Option AV|none=>cs[off]?|some n=>if off+n<=cs.length then some (.ag ((cs.drop off).take n)) else none
def bV (op:BinOp):Value->Value->Option Value
 | .int k a,.int c b=>
  match op with
  |.shl=>if b<0 then none else some (.int k (k.wrap (a*2^(min b.toNat k.bits))))|.shr=>if b<0 then none else some (.int k (a.fdiv (2^(min b.toNat k.bits))))| _=>
   if k=c then
    match op with
    |.add=>some (.int k (k.wrap (a+b)))|.sub=>some (.int k (k.wrap (a-b)))|.mul=>some (.int k (k.wrap (a*b)))|.quo=>if b=0 then none else some (.int k (k.wrap (a.tdiv b)))|.rem=>if b=0 then none else some (.int k (a.tmod b))|.and=>some (.int k (k.wrap (BitVec.ofInt k.bits a &&& BitVec.ofInt k.bits b).toNat))|.or=>some (.int k (k.wrap (BitVec.ofInt k.bits a ||| BitVec.ofInt k.bits b).toNat))|.xor=>some (.int k (k.wrap (BitVec.ofInt k.bits a ^^^ BitVec.ofInt k.bits b).toNat))|.andNot=>some (.int k (k.wrap (BitVec.ofInt k.bits a &&& ~~~ (BitVec.ofInt k.bits b)).toNat))|.eql=>some (.bool (a==b))|.neq=>some (.bool (a !=b))|.lss=>some (.bool (a<b))|.leq=>some (.bool (a<=b))|.gtr=>some (.bool (a>b))|.geq=>some (.bool (a>=b))|_=>none
   else none
 |.string a,.string b=>
  match op with
  |.add=>if a.size+b.size<=maxLen then some (.string (a++b)) else none|.eql=>some (.bool (a.toList==b.toList))|.neq=>some (.bool (!(a.toList==b.toList)))|.lss=>some (.bool (Op.bytesLess a.toList b.toList))|.leq=>some (.bool (Op.bytesLess a.toList b.toList||a.toList==b.toList))|.gtr=>some (.bool (!(Op.bytesLess a.toList b.toList||a.toList==b.toList)))|.geq=>some (.bool (!Op.bytesLess a.toList b.toList))|_=>none
 |_,_=>none
def pun(op:UnOp):Value->Option Value
 |.bool b=>match op with|.not=>some (.bool (!b))|_=>none
 |.int k n=>match op with|.neg=>some (.int k (k.wrap (0-n)))|.xor=>some (.int k (k.wrap (BitVec.ofInt k.bits (if k.signed then -1 else k.max) ^^^ BitVec.ofInt k.bits n).toNat))|_=>none
 |_=>none
def eqC:List LK->O0->O0->Option Bool
 |[],[],[]=>some true|.int k::c,.v (.int f a)::d,.v (.int e b)::ds=>if f=k/\e=k then(match eqC c d ds with|some r=>some (a==b&&r)|none=>none) else none
 |.bool::c,.v (.bool a)::d,.v (.bool b)::ds=>match eqC c d ds with|some r=>some (a==b&&r)|none=>none
 |.str::c,.v (.string a)::d,.v (.string b)::ds=>match eqC c d ds with|some r=>some (a.toList==b.toList&&r)|none=>none
 |_,_,_=>none
def rJ:List LK->O5->O5->Option Bool
 |[],[],[]=>some true|.int k::c,.int f a::d,.int e b::ds=>if f=k/\e=k then(match rJ c d ds with|some r=>some (a==b&&r)|none=>none) else none
 |.bool::c,.bool a::d,.bool b::ds=>match rJ c d ds with|some r=>some (a==b&&r)|none=>none
 |.str::c,.string a::d,.string b::ds=>match rJ c d ds with|some r=>some (a.toList==b.toList&&r)|none=>none
 |_,_,_=>none
def aK4(a:List LK)(k:O5):List O5->Nat->Option (Option Nat)|[],_=>some none|b::r,i=>match rJ a k b with|some true=>some (some i)|some false=>aK4 a k r (i+1)|none=>none
def G6:O0->Option O5
 |[]=>some []|.v x::r=>match G6 r with|some l=>some (x::l)|none=>none
 |_::_=>none
def LF(ag:Bool)(a:List LK)(x:AV):Option O5:=
 match(if ag then(match Vu x with|some b=>G6 b|none=>none) else(match x with|.v u=>some [u]|_=>none)) with
 |some k=>match rJ a k k with|some _=>some k|none=>none
 |none=>none
def aC2(T:aK)(ag:Bool):AV->Option (List O5×O0)
 |.v (.map none)=>some ([],[])|.mp i=>match cR T i with|some (.map a c b _ _)=>if ag=a then some (c,b) else none|_=>none
 |_=>none
def JY(a:O0):List (Nat×Nat×AV)->Option O0
 |[]=>some a
 |(b,n,x)::r=>
  if(dT x).length=n/\b+n<=a.length/\(dT x).all gS=true then JY (a.take b++dT x++a.drop (b+n)) r else none
def yI(k:Nat):Nat->O0->N_|0,_=>[]|n+1,a=>a.take k::yI k n (a.drop k)
def lJ(s:ByteArray):N_:=s.data.toList.map λb=>[.v (.int .u8 b.toNat)]
def Kp:N_->Option (List UInt8)
 |[]=>some []|[.v (.int .u8 n)]::r=>match Kp r with|some l=>some (UInt8.ofNat n.toNat::l)|none=>none
 |_::_=>none
def Rj(T:aK)(k:Nat):AV->Option N_
 |.ls c b=>if k=c then some b else none|.own a=>match cR T a with|some (.arr c b)=>if k=c then some b else none|_=>none
 |.v (.slice none 0 0)=>some []|.vw a c e m=>match cR T a with|some (.arr d b)=>if k=c/\k=d/\e+m<=b.length then some ((b.drop e).take m) else none|_=>none
 |_=>none
def Zj:AV->Option Nat|.v (.int _ n)=>if 0<=n then some n.toNat else none|_=>none
mutual
def MM:AV->O3|.own i=>[i]|.ptr i _=>[i]|.elt i _ _ _=>[i]|.vw i _ _ _=>[i]|.mp i=>[i]|.yl i=>[i]|.bm _ _ a=>iZ a|.ag a=>iZ a|.cl _ a=>iZ a|.tup a=>iZ a|_=>[]
def iZ:O0->O3|[]=>[]|c::a=>MM c++iZ a
end
mutual
def CB(i k:Nat)(es:N_):AV->AV
 |.own j=>if j=i then .ls k es else .own j|.elt j c m b=>if j=i then(if c=k then(match es[m]? with|some e=>.rp (e.drop b)|none=>.any) else .any) else .elt j c m b
 |.vw j c d m=>if j=i then(if c=k/\d+m<=es.length then .ls k ((es.drop d).take m) else .any) else .vw j c d m|.ag a=>.ag (IB i k es a)|.cl f a=>.cl f (IB i k es a)|.bm f m a=>.bm f m (IB i k es a)|.tup a=>.tup (IB i k es a)|x=>x
def IB(i k:Nat)(es:N_):O0->O0|[]=>[]|c::a=>CB i k es c::IB i k es a
end
def QR(i k:Nat)(es:N_):List (Nat×AV)->List (Nat×AV)|[]=>[]|(j,x)::r=>(j,CB i k es x)::QR i k es r
def Zk(i k:Nat)(es:N_):N_->N_|[]=>[]|e::r=>IB i k es e::Zk i k es r
def Vq(i k:Nat)(es:N_):AObj->Option AObj|.box j=>some (.box (IB i k es j))|.arf f e=>if(Zk i k es e).all (·.all gS) then some (.arf f (Zk i k es e)) else none|.lp r s=>some (.lp r (QR i k es s))|.mit a b c d=>some (.mit a b c d)|.map m h g bs l=>some (.map m h (IB i k es g) bs l)|.arr f e=>some (.arr f e)
def QS(i k:Nat)(es:N_):aK->aK|[]=>[]|o::r=>o.bind (Vq i k es)::QS i k es r
def Gq(T:aK):O3->aK|[]=>T|i::r=>match cR T i with|some (.arr k a)=>Gq ((QS i k a T).set i none) r|_=>Gq T r
def uS(T:aK):O3->AV->AV|[],x=>x|i::r,x=>match cR T i with|some (.arr k a)=>uS ((QS i k a T).set i none) r (CB i k a x)|_=>uS T r x
def cE (T:aK) (ev:Operand->AV):HOp->Option (AV×aK)
 |.mov x=>some (ev x,T)|.pick c a b=>match ev c with|.v (.bool t)=>some (if t then ev a else ev b,T)|_=>none
 | .bin U x y=>match ev x,ev y with
  |.v a,.v b=>match bV U a b with|some u=>some (.v u,T)|none=>none
  |_,_=>none
 | .eqa I C x y=>match Vu (ev x),Vu (ev y) with
  |some B,some ds=>match eqC C B ds with|some t=>some (.v (.bool (if I then !t else t)),T)|none=>none
  |_,_=>none
 |.eqb I x y=>match ev x,ev y with|.v (.bool a),.v (.bool b)=>some (.v (.bool (if I then !(a==b) else a==b)),T)|_,_=>none
 | .un U x=>match ev x with
  |.v a=>match pun U a with|some u=>some (.v u,T)|none=>none
  |_=>none
 |.conv k x=>match ev x with|.v (.int _ n)=>some (.v (.int k (k.wrap n)),T)|_=>none
 |.box x=>if(dT (ev x)).all gS then some (.ptr T.length 0,T++[some (.box (dT (ev x)))]) else none|.alloc z=>some (.ptr T.length 0,T++[some (.box (z.map .v))])|.bld z A=>match JY (z.map .v) (A.map λp=>(p.1,p.2.1,ev p.2.2)) with|some B=>some (.ag B,T)|none=>none
 |.bsl k z A F=>match JY (z.map .v) (A.map λp=>(p.1,p.2.1,ev p.2.2)) with|some B=>if B.all aX then some (.own T.length,T++[some (.arr k (yI k F B))]) else if B.all gS then some (.own T.length,T++[some (.arf k (yI k F B))]) else none|none=>none
 |.bslS k z A F=>match JY (z.map .v) (A.map λp=>(p.1,p.2.1,uS T (iZ (A.map λp=>ev p.2.2)) (ev p.2.2))) with|some B=>if B.all aX then some (.own (Gq T (iZ (A.map λp=>ev p.2.2))).length,Gq T (iZ (A.map λp=>ev p.2.2))++[some (.arr k (yI k F B))]) else none|none=>none
 | .ld n p=>match ev p with
  | .ptr i w=>match cR T i with
   |some (.box B)=>match Mo B w n with|some x=>some (x,T)|none=>none
   |_=>none
  |.rp B=>match Mo B 0 n with|some x=>some (x,T)|none=>none
  | .elt i k j w=>match sZ (cR T i) with
   | some (q,g,_)=>if k=q then match g[j]? with
    |some e=>match Mo e w n with|some x=>some (x,T)|none=>none
    |none=>none else none
   |_=>none
  |_=>none
 | .st n p x=>match ev p with
  | .ptr i w=>match cR T i with
   | some (.box B)=>
    if(dT (ev x)).length=n/\w+n<=B.length/\(dT (ev x)).all gS then
     some (.v undef,T.set i (some (.box (B.take w++dT (ev x)++B.drop (w+n)))))
    else none
   |_=>none
  | .elt i k j w=>match sZ (cR T i) with
   | some (q,g,b)=>if k=q then match g[j]? with
    | some e=>
     if(dT (ev x)).length=n/\w+n<=e.length/\(dT (ev x)).all (PO b) then
      some (.v undef,T.set i (some (jE b k (g.set j (e.take w++dT (ev x)++e.drop (w+n))))))
     else none
    |none=>none else none
   |_=>none
  |_=>none
 |.fad p w=>match ev p with|.ptr i o=>some (.ptr i (o+w),T)|.elt i k j o=>some (.elt i k j (o+w),T)|.rp B=>some (.rp (B.drop w),T)|_=>none
 | .fld x w n=>match ev x with
  |.ag B=>match Mo B w n with|some y=>some (y,T)|none=>none
  |.v (.agg R)=>match Mo (R.toList.map .v) w n with|some y=>some (y,T)|none=>none
  |_=>none
 | .iad x Q k=>match ev x,ev Q with
  |.ls q g,.v (.int _ i)=>if k=q/\0<=i then match g[i.toNat]? with|some e=>some (.rp e,T)|none=>none else none
  |.own a,.v (.int _ i)=>match sZ (cR T a) with|some (q,g,_)=>if k=q/\0<=i/\i.toNat<g.length then some (.elt a k i.toNat 0,T) else none|_=>none
  |.vw a q E m,.v (.int _ i)=>if k=q/\0<=i/\i.toNat<m then some (.elt a k (E+i.toNat) 0,T) else none|_,_=>none
 |.iadA x Q F k=>match ev x,ev Q with|.ptr a o,.v (.int _ i)=>if 0<=i/\i<F then some (.ptr a (o+i.toNat*k),T) else none|.rp B,.v (.int _ i)=>if 0<=i/\i<F then some (.rp (B.drop (i.toNat*k)),T) else none|.elt a q j o,.v (.int _ i)=>if 0<=i/\i<F then some (.elt a q j (o+i.toNat*k),T) else none|_,_=>none
 | .ixS x Q=>match ev x,ev Q with
  |.v (.string s),.v (.int _ i)=>if 0<=i then match s.data[i.toNat]? with|some b=>some (.v (.int .u8 b.toNat),T)|none=>none else none
  |_,_=>none
 |.lenS x=>match ev x with|.v (.string s)=>some (.v (.int .i64 s.size),T)|_=>none
 | .lenL x=>match ev x with
  |.ls _ g=>some (.v (.int .i64 g.length),T)|.own a=>match sZ (cR T a) with|some (_,g,_)=>some (.v (.int .i64 g.length),T)|_=>none
  |.v (.slice none 0 0)=>some (.v (.int .i64 0),T)|.vw _ _ _ m=>some (.v (.int .i64 m),T)|_=>none
 | .app x y k D=>
  let S:Option (N_×Bool):=match ev y with
   |.ls q g=>if k=q then some (g,true) else none|.own a=>match sZ (cR T a) with|some (q,g,b)=>if k=q then some (g,b) else none|_=>none
   |.v (.slice none 0 0)=>some ([],true)|.vw a q E m=>match sZ (cR T a) with|some (O,g,b)=>if k=q/\k=O/\E+m<=g.length then some ((g.drop E).take m,b) else none|_=>none
   |_=>none
  match S with
  |none=>none| some (new,b)=>match ev x with
   |.v (.slice none 0 0)=>if new.length*D<=140737488355328/\new.length<=maxLen then some (.own T.length,T++[some (jE b k new)]) else none|.own a=>match sZ (cR T a) with|some (q,g,Y)=>if k=q/\(g.length+new.length)*D<=140737488355328/\g.length+new.length<=maxLen then some (.own T.length,T.set a none++[some (jE (b&&Y) k (g++new))]) else none|_=>none
   |_=>none
 | .ext x i=>match ev x with
  |.tup H=>match H[i]? with|some y=>some (y,T)|none=>none
  |.v (.tuple R)=>match R.toList[i]? with|some y=>some (.v y,T)|none=>none
  |_=>none
 |.clo f J=>some (.cl f (J.map ev),T)|.call _ _=>none|.nilc x=>match ev x with|.ptr i o=>some (.ptr i o,T)|.elt i k j o=>some (.elt i k j o,T)|.rp B=>some (.rp B,T)|_=>none
 | .slc x E M k=>
  let qD (o:Option Operand) (d:Nat):Option Nat:=match o with|none=>some d|some o=>match ev o with|.v (.int _ n)=>if 0<=n then some n.toNat else none|_=>none
  match ev x with
  |.ls q g=>match qD E 0,qD M g.length with|some l,some h=>if k=q/\l<=h/\h<=g.length then some (.ls k ((g.drop l).take (h-l)),T) else none|_,_=>none
  | .own a=>match sZ (cR T a) with
   |some (q,g,_)=>match qD E 0,qD M g.length with|some l,some h=>if k=q/\l<=h/\h<=g.length then some (.vw a k l (h-l),T) else none|_,_=>none
   |_=>none
  |.vw a q N m=>match qD E 0,qD M m with|some l,some h=>if k=q/\l<=h/\h<=m then some (.vw a k (N+l) (h-l),T) else none|_,_=>none
  |.v (.slice none 0 0)=>match qD E 0,qD M 0 with|some l,some h=>if l=0/\h=0 then some (.v (.slice none 0 0),T) else none|_,_=>none
  |_=>none
 | .slcS x E M=>
  let qD (o:Option Operand) (d:Nat):Option Nat:=match o with|none=>some d|some o=>match ev o with|.v (.int _ n)=>if 0<=n then some n.toNat else none|_=>none
  match ev x with
  |.v (.string s)=>match qD E 0,qD M s.size with|some l,some h=>if l<=h/\h<=s.size then some (.v (.string (s.extract l h)),T) else none|_,_=>none
  |_=>none
 | .nilS I X x=>
  let r:Option Bool:=match X,ev x with
   |0,.v (.pointer none)=>some true|0,.ptr _ _=>some false|0,.elt _ _ _ _=>some false|0,.rp _=>some false|1,.v (.slice none 0 0)=>some true|1,.own a=>match sZ (cR T a) with|some (_,_::_,_)=>some false|_=>none
   |1,.ls _ (_::_)=>some false|2,.v .nilFunc=>some true|2,.cl _ _=>some false|2,.v (.func _ _ _)=>some false|_,_=>none
  match r with
  |some b=>some (.v (.bool (if I then !b else b)),T)|none=>none
 |.mm mx x y=>match ev x,ev y with|.v (.int k a),.v (.int q b)=>if k=q then some (.v (.int k (if mx then(if b>a then b else a) else if b<a then b else a)),T) else none|_,_=>none
 |.mkm ag=>some (.mp T.length,T++[some (.map ag [] [] [] 0)])| .lku ag ls z m k V=>match aC2 T ag (ev m),LF ag ls (ev k) with
  | some (C,H),some L=>match aK4 ls L C 0 with
   |some none=>some (if V then .tup [.v z,.v (.bool false)] else .v z,T)|some (some j)=>match H[j]? with|some x=>some (if V then .tup [x,.v (.bool true)] else x,T)|none=>none
   |none=>none
  |_,_=>none
 | .mup ag ls m k x=>match ev m with
  | .mp i=>match cR T i,LF ag ls (ev k) with
   |some (.map K C H bs G),some L=>if ag=K then match aK4 ls L C 0 with|some none=>some (.v undef,T.set i (some (.map ag (C++[L]) (H++[ev x]) (bs++[G]) (G+1))))|some (some j)=>some (.v undef,T.set i (some (.map ag C (H.set j (ev x)) bs G)))|none=>none else none
   |_,_=>none
  |_=>none
 | .men ag ls z m k=>match ev m with
  | .mp i=>match cR T i,LF ag ls (ev k) with
   | some (.map K C H bs G),some L=>if ag=K then match aK4 ls L C 0 with
    |some none=>some (.tup [.v z,.v (.int .i64 G)],T.set i (some (.map ag (C++[L]) (H++[.v z]) (bs++[G]) (G+1))))|some (some j)=>match H[j]?,bs[j]? with|some x,some b=>some (.tup [x,.v (.int .i64 b)],T)|_,_=>none
    |none=>none else none
   |_,_=>none
  |_=>none
 | .mst m s x=>match ev m,ev s with
  | .mp i,.v (.int _ n)=>match cR T i with
   |some (.map ag C H bs G)=>match bs.findIdx? (λ(b:Nat)=>(b:Int)==n) with|some j=>some (.v undef,T.set i (some (.map ag C (H.set j (ev x)) bs G)))|none=>none
   |_=>none
  |_,_=>none
 | .del ag ls m k=>match ev m with
  | .mp i=>match cR T i,LF ag ls (ev k) with
   |some (.map K C H bs G),some L=>if ag=K then match aK4 ls L C 0 with|some none=>some (.v (.tuple #[]),T)|some (some j)=>some (.v (.tuple #[]),T.set i (some (.map ag (C.eraseIdx j) (H.eraseIdx j) (bs.eraseIdx j) G)))|none=>none else none
   |_,_=>none
  |_=>none
 | .lenM m=>match ev m with
  |.v (.map none)=>some (.v (.int .i64 0),T)|.mp i=>match cR T i with|some (.map _ C _ _ _)=>some (.v (.int .i64 C.length),T)|_=>none
  |_=>none
 |.mks k z D x y=>match ev x,ev y with|.v (.int .i64 n),.v (.int .i64 c)=>if 0<=n/\n<=c/\c*D<=140737488355328/\c<=maxLen then some (.own T.length,T++[some (.arr k (List.replicate n.toNat (z.map .v)))]) else none|_,_=>none
 |.s2b x=>match ev x with|.v (.string s)=>if s.size<=maxLen then some (.ls 1 (lJ s),T) else none|_=>none
 | .b2b x=>match ev x with
  |.own i=>match cR T i with|some (.arr k (e::g))=>if k=1 then some (.ls 1 (e::g),T.set i none) else none|_=>none
  |_=>none
 | .b2s x=>match Rj T 1 (ev x) with
  |some g=>match Kp g with|some l=>some (.v (.string ⟨l.toArray⟩),T)|none=>none
  |none=>none
 | .apS x y=>match ev y with
  | .v (.string s)=>match ev x with
   |.v (.slice none 0 0)=>if s.size<=140737488355328/\s.size<=maxLen then some (.own T.length,T++[some (.arr 1 (lJ s))]) else none|.own a=>match cR T a with|some (.arr q g)=>if q=1/\g.length+s.size<=140737488355328/\g.length+s.size<=maxLen then some (.own T.length,T.set a none++[some (.arr 1 (g++lJ s))]) else none|_=>none
   |_=>none
  |_=>none
 | .slx x E M mx k=>match(match E with|none=>some 0|some o=>Zj (ev o)),Zj (ev M),Zj (ev mx) with
  | some l,some h,some m=>match ev x with
   |.ls q g=>if k=q/\l<=h/\h<=m/\m<=g.length then(if m=l then some (.own T.length,T++[some (.arr k [])]) else some (.ls k ((g.drop l).take (h-l)),T)) else none|.own a=>match cR T a with|some (.arr q g)=>if k=q/\l<=h/\h<=m/\m<=g.length then(if m=l then some (.own T.length,T++[some (.arr k [])]) else some (.vw a k l (h-l),T)) else none|_=>none
   |.vw a q N n=>if k=q/\l<=h/\h<=m/\m<=n then(if m=l then some (.own T.length,T++[some (.arr k [])]) else some (.vw a k (N+l) (h-l),T)) else none|.v (.slice none 0 0)=>if l=0/\h=0/\m=0 then some (.own T.length,T++[some (.arr k [])]) else none|_=>none
  |_,_,_=>none
 |.bmo f k J=>some (.bm f k (J.map ev),T)| .rgm m=>match ev m with
  |.v (.map none)=>some (.ptr T.length 0,T++[some (.mit none 0 [] 0)])|.mp j=>match cR T j with|some (.map _ _ _ _ G)=>some (.ptr T.length 0,T++[some (.mit (some j) G [] G)])|_=>none
  |_=>none
 |.nxt _=>none|.bad=>none| .ent p=>match ev p with
  | .ptr i 0=>match cR T i with
   | some (.mit (some j) _ P W)=>match cR T j,P.getLast? with
    | some (.map ag C H bs G),some b=>if G=W then match bs.findIdx? (· == b) with
     |some e=>match C[e]?,H[e]? with|some k,some v=>some (.tup [.v (iY ag k),v],T)|_,_=>none
     |none=>none else none
    |_,_=>none
   |_=>none
  |_=>none
 | .clr x k z=>match ev x with
  |.ls _ []=>some (.v (.tuple #[]),T)|.v (.slice none 0 0)=>some (.v (.tuple #[]),T)|.own a=>match cR T a with|some (.arr q g)=>if k=q/\z.length=k/\(z.all λv=>aX (.v v))=true then some (.v (.tuple #[]),T.set a (some (.arr k (List.replicate g.length (z.map .v))))) else none|_=>none
  |.vw a q E m=>match cR T a with|some (.arr O g)=>if k=q/\k=O/\z.length=k/\E+m<=g.length/\(z.all λv=>aX (.v v))=true then some (.v (.tuple #[]),T.set a (some (.arr k (g.take E++List.replicate m (z.map .v)++g.drop (E+m))))) else none|_=>none
  |_=>none
def aHi:N_->O3|[]=>[]|e::a=>iZ e++aHi a
def PS:List (Nat×AV)->O3|[]=>[]|(_,x)::r=>MM x++PS r
def aJi:Option AObj->O3|some (.box c)=>iZ c|some (.arf _ b)=>aHi b|some (.lp _ s)=>PS s|some (.mit (some j) _ _ _)=>[j]|some (.map _ _ a _ _)=>iZ a|_=>[]
def IC:O3->O3->O3|L,[]=>L|L,i::r=>if L.contains i then IC L r else IC (L++[i]) r
def aC3(T:aK):O3->O3|[]=>[]|i::r=>aJi (cR T i)++aC3 T r
def Ee(T:aK):aK->O3->O3|[],L=>L|_::R,L=>Ee T R (IC L (aC3 T L))
def Bc(T:aK)(ids:O3):O3:=Ee T T (IC [] ids)
def TO(L:O3)(i:Nat):Option Nat:=L.idxOf? i
mutual
def Bd(L:O3):AV->AV
 |.own i=>match TO L i with|some j=>.own j|none=>.any
 |.ptr i o=>match TO L i with|some j=>.ptr j o|none=>.any
 |.elt i k j o=>match TO L i with|some m=>.elt m k j o|none=>.any
 |.vw i k j o=>match TO L i with|some m=>.vw m k j o|none=>.any
 |.mp i=>match TO L i with|some m=>.mp m|none=>.any
 |.yl i=>match TO L i with|some m=>.yl m|none=>.any
 |.bm f k a=>.bm f k (xF L a)|.ag a=>.ag (xF L a)|.cl f a=>.cl f (xF L a)|.tup a=>.tup (xF L a)|x=>x
def xF(L:O3):O0->O0|[]=>[]|c::a=>Bd L c::xF L a
end
def Td(L:O3):List (Nat×AV)->List (Nat×AV)|[]=>[]|(i,x)::r=>(i,Bd L x)::Td L r
def XQ(L:O3):N_->N_|[]=>[]|e::a=>xF L e::XQ L a
def YQ(L:O3):AObj->Option AObj
 |.box g=>some (.box (xF L g))|.arf k d=>if(XQ L d).all (·.all gS) then some (.arf k (XQ L d)) else none|.lp r s=>some (.lp r (Td L s))|.mit none a b c=>some (.mit none a b c)|.mit (some j) a b c=>match TO L j with|some m=>some (.mit (some m) a b c)|none=>none
 |.arr k d=>some (.arr k d)|.map i f e bs h=>some (.map i f (xF L e) bs h)
def GX(L:O3)(T:aK):aK:=L.map λi=>(cR T i).bind (YQ L)
def LG(p:Nat×AV):List (Nat×AV)->List (Nat×AV)|[]=>[p]|q::r=>if p.1<q.1 then p::q::r else q::LG p r
def gP:List (Nat×AV)->List (Nat×AV)|[]=>[]|p::r=>LG p (gP r)
def aH8(d:O3):List (Nat×AV)->List (Nat×AV)|[]=>[]|(i,x)::r=>if d.contains i then aH8 d r else(i,x)::aH8 d r
def DB(d:O3)(st:St):St :=
 let s:=gP (aH8 d st.s)
 let L:=Bc st.T (List.range st.r++PS s)
 ⟨st.r,Td L s,GX L st.T⟩
def bk(L:O3)(n:Nat)(j:Nat):Nat:=if j<L.length then L.getD j 0 else n+(j-L.length)
mutual
def AR(L:O3)(n:Nat):AV->AV|.own i=>.own (bk L n i)|.ptr i o=>.ptr (bk L n i) o|.elt i k j o=>.elt (bk L n i) k j o|.vw i k j o=>.vw (bk L n i) k j o|.mp i=>.mp (bk L n i)|.yl i=>.yl (bk L n i)|.bm f k a=>.bm f k (EJ L n a)|.ag a=>.ag (EJ L n a)|.cl f a=>.cl f (EJ L n a)|.tup a=>.tup (EJ L n a)|x=>x
def EJ(L:O3)(n:Nat):O0->O0|[]=>[]|c::a=>AR L n c::EJ L n a
end
def bkS(L:O3)(n:Nat):List (Nat×AV)->List (Nat×AV)|[]=>[]|(i,x)::r=>(i,AR L n x)::bkS L n r
def bkF(L:O3)(n:Nat):N_->N_|[]=>[]|e::a=>EJ L n e::bkF L n a
def DC(L:O3)(n:Nat):Option AObj->Option AObj|some (.box g)=>some (.box (EJ L n g))|some (.arf k d)=>some (.arf k (bkF L n d))|some (.lp r s)=>some (.lp r (bkS L n s))|some (.mit none a b c)=>some (.mit none a b c)|some (.mit (some j) a b c)=>some (.mit (some (bk L n j)) a b c)|some (.arr k d)=>some (.arr k d)|some (.map i f e bs h)=>some (.map i f (EJ L n e) bs h)|none=>none
def IF(L:O3)(n:Nat):aK->O3->aK->aK|T,_,[]=>T|T,[],a=>T++a.map (DC L n)|T,i::b,o::a=>IF L n (T.set i (DC L n o)) b a
mutual
def tB(T:aK):AV->AV
 |.own i=>match cR T i with|some (.arr k a)=>.ls k a|_=>.any
 |.vw i k b m=>match cR T i with|some (.arr c a)=>if k=c/\b+m<=a.length then .ls k ((a.drop b).take m) else .any|_=>.any
 |.ag d=>.ag (xG T d)|x=>x
def xG(T:aK):O0->O0|[]=>[]|c::a=>tB T c::xG T a
end
mutual
def fX:AV->Prop|.ls _ b=>b=[]|.rp a=>a=[]|.ag a=>tC a|.cl _ a=>tC a|.bm _ _ a=>tC a|.tup a=>tC a|_=>True
def tC:O0->Prop|[]=>True|c::a=>fX c/\tC a
end
def xH:Option AObj->Prop|some (.box d)=>tC d|some (.map _ _ b _ _)=>tC b|some (.arr _ a)=>∀e∈a,∀c∈e,∃x,c=.v x|some (.arf _ a)=>∀e∈a,tC e|some (.lp _ s)=>∀p∈s,fX p.2|some (.mit _ _ _ _)=>True|none=>True
mutual
def tV:AV->AV->Prop|.ag b,y=>y=.ag b\/∃ds,y=.ag ds/\EK b ds|.v u,y=>y=.v u\/(u=.slice none 0 0/\∃k,y=.ls k [])\/(∃a,u=.agg a/\y=.ag (a.toList.map .v))|x,y=>y=x
def EK:O0->O0->Prop|[],y=>y=[]|c::a,y=>∃d ds,y=d::ds/\tV c d/\EK a ds
end
def aC4(P:Program)(G:L_)(f:FuncId)(args:O0)(T:aK)(K:AV->aK->Prop):Prop :=
 (∃L:O3,L.Nodup/\(∀i∈L,i<T.length)/\aA P G f (xF L args) (GX L T) λr a=>K (AR L T.length r) (IF L T.length T L a)) \/
 (iZ (xG T args)=[]/\aA P G f (xG T args) [] λr a=>fX r/\(∀o∈a,xH o)/\K (AR [] T.length r) (T++a.map (DC [] T.length))) \/
 aA P G f args T K
def IG(P:Program)(G:L_)(f:FuncId)(args:O0)(T:aK)(K:AV->aK->Prop):Prop :=
 ∃a,EK args a/\aC4 P G f a T K
def QT (st:St) (j:Nat) (c:Option Nat) (k:Nat):St :=
 match c with
 |none=>match bA st.s j with|.v (.slice none 0 0)=>⟨st.r,GW st.s j (.own st.T.length),st.T++[some (.arr k [])]⟩|_=>st
 | some c=>match bA st.s j with
  | .ptr i _=>match cR st.T i with
   |some (.box a)=>match a[c]? with|some (.v (.slice none 0 0))=>⟨st.r,st.s,(st.T++[some (AObj.arr k [])]).set i (some (.box (a.set c (.own st.T.length))))⟩|_=>st
   |_=>st
  |_=>st
def shutI(st:St)(i:Nat):St:=match cR st.T i with|some (.arr k a)=>⟨st.r,QR i k a st.s,(QS i k a st.T).set i none⟩|_=>st
def Ef(st:St):O3->St|[]=>st|i::r=>Ef (shutI st i) r
def Rk(st:St)(j:Nat):St:=Ef st (MM (bA st.s j))
def Te(a:Nat)(x:AV):Bool:=match a,x with|1,.ls _ []=>true|_,_=>false
def fnA:AV->AV|.v (.func (.func g) a b)=>if a.size=0/\b.size=0 then .cl g [] else .v (.func (.func g) a b)|x=>x
def yF (P:Program) (G:L_) (st:St) (o:HOp) (K:AV->aK->Prop):Prop :=
 match o with
 |.call f d=>match fnA (dW G st.s f) with|.cl g h=>IG P G g (d.map (dW G st.s)++h) st.T K|.bm g k n=>IG P G g (n.take k++d.map (dW G st.s)++n.drop k) st.T K|.yl i=>DA P G i (d.map (dW G st.s)) st.T K|_=>False
 | .nxt p=>match dW G st.s p with
  | .ptr i 0=>match cR st.T i with
   |some (.mit none _ _ _)=>K (.v (.tuple #[.bool false])) st.T|some (.mit (some j) a c r)=>match cR st.T j with
    | some (.map u t q bs cl)=>a<=r/\(∀b∈bs,b<a)/\((∀b∈bs,b∈c)->K (.v (.tuple #[.bool false])) st.T) /\
      ∀(e:Nat)(k:O5)(v:AV)(b:Nat),t[e]?=some k->q[e]?=some v->bs[e]?=some b->b∉c ->
       K (.tup [.v (.bool true),.v (iY u k),v]) (st.T.set i (some (.mit (some j) a (c++[b]) cl)))
    |_=>False
   |_=>False
  |_=>False
 |.nilS l m x=>if Te m (dW G st.s x)=true then K (.v (.bool true)) st.T/\K (.v (.bool false)) st.T else match cE st.T (dW G st.s) (.nilS l m x) with|some (y,T)=>K y T|none=>False
 |o=>match cE st.T (dW G st.s) o with|some (x,T)=>K x T|none=>False
def fY(s:List (Nat×AV)):Option (Nat×Bool)->Option Bool|none=>some true|some (j,b)=>match bA s j with|.v (.bool t)=>some (t==b)|.v (.tuple _)=>some false|_=>none
def Mp(P:Program)(G:L_):List HOper->St->(St->Prop)->Prop|[],a,K=>K a|o::b,a,K=>match fY a.s o.guard with|some true=>yF P G a o.op λx T=>Mp P G b ⟨a.r,fV a.s o.dst x,T⟩ K|some false=>Mp P G b ⟨a.r,fV a.s o.dst (.v undef),a.T⟩ K|none=>False
def qL(G:L_)(st:St):List HOper->Prop|[]=>True| o::a=>(match fY st.s o.guard with
  |some true=>match cE st.T (dW G st.s) o.op with|some (x,_)=>o.dst.map (bA st.s)=some x|none=>False
  |some false=>o.dst.map (bA st.s)=some (.v undef)|none=>False)/\qL G st a
def bG:Operand->O3|.tmp t=>[t]|_=>[]
def pS:HOp->O3
 |.mov x=>bG x|.pick c a b=>bG c++bG a++bG b|.bin _ x y=>bG x++bG y|.eqa _ _ x y=>bG x++bG y|.eqb _ x y=>bG x++bG y|.un _ x=>bG x|.conv _ x=>bG x|.box x=>bG x|.alloc _=>[]|.bld _ ps=>ps.flatMap λp=>bG p.2.2|.bsl _ _ ps _=>ps.flatMap λp=>bG p.2.2|.bslS _ _ ps _=>ps.flatMap λp=>bG p.2.2|.ld _ p=>bG p|.st _ p x=>bG p++bG x|.fad p _=>bG p|.fld x _ _=>bG x|.iad x i _=>bG x++bG i|.iadA x i _ _=>bG x++bG i|.ixS x i=>bG x++bG i|.lenS x=>bG x|.lenL x=>bG x|.app x y _ _=>bG x++bG y|.ext x _=>bG x|.clo _ g=>g.flatMap bG|.call f h=>bG f++h.flatMap bG|.nilc x=>bG x|.slc x d e _=>bG x++(match d with|some o=>bG o|none=>[])++(match e with|some o=>bG o|none=>[])
 |.slcS x d e=>bG x++(match d with|some o=>bG o|none=>[])++(match e with|some o=>bG o|none=>[])
 |.nilS _ _ x=>bG x|.mm _ x y=>bG x++bG y|.mkm _=>[]|.lku _ _ _ m k _=>bG m++bG k|.mup _ _ m k x=>bG m++bG k++bG x|.men _ _ _ m k=>bG m++bG k|.mst m s x=>bG m++bG s++bG x|.del _ _ m k=>bG m++bG k|.lenM m=>bG m|.mks _ _ _ x y=>bG x++bG y|.s2b x=>bG x|.b2s x=>bG x|.b2b x=>bG x|.apS x y=>bG x++bG y|.slx x d e mx _=>bG x++(match d with|some o=>bG o|none=>[])++bG e++bG mx
 |.bmo _ _ g=>g.flatMap bG|.rgm m=>bG m|.nxt p=>bG p|.ent p=>bG p|.bad=>[]|.clr x _ _=>bG x
def Vr(o:HOper):O3:=pS o.op++(match o.guard with|some (j,_)=>[j]|none=>[])
def iE:HOp->Bool|.box _=>false|.alloc _=>false|.bsl _ _ _ _=>false|.bslS _ _ _ _=>false|.st _ _ _=>false|.app _ _ _ _=>false|.call _ _=>false|.mkm _=>false|.mup _ _ _ _ _=>false|.men _ _ _ _ _=>false|.mst _ _ _=>false|.del _ _ _ _=>false|.mks _ _ _ _ _=>false|.s2b _=>false|.b2b _=>false|.apS _ _=>false|.slx _ _ _ _ _=>false|.rgm _=>false|.nxt _=>false|.ent _=>false|.bad=>false|.clr _ _ _=>false|_=>true
structure Plan where
 hops:List HOper
 pre:List (List Nat)
def Plan.p(p:Plan)(i:Nat):O3:=p.pre.getD i []
def Plan.ng(p:Plan):Bool:=decide (p.hops.length<p.pre.length)
def Plan.quiet(p:Plan)(i:Nat):Bool :=
 match p.hops[i]? with
 |none=>false| some o=>iE o.op&&(match o.dst with|none=>false|some d=>(List.range p.hops.length).all λr=>match p.hops[r]? with|none=>true|some a=>!(Vr a).contains d||(p.p r).contains i)
def Plan.ready(p:Plan)(E:O3):O3:=(List.range p.hops.length).filter λi=>!E.contains i&&(p.p i).all E.contains
def Plan.pend(p:Plan)(E:O3):List HOper :=
 (E.filter λq=>p.quiet q&&!(E.any λh=>!p.quiet h&&(p.p h).contains q)).filterMap λq=>p.hops[q]?
def IH(P:Program)(G:L_)(b:List HOper):Nat->List HOper->St->(St->Prop)->Prop|0,_,a,K=>K a|n+1,c,a,K=>∀i o,c[i]?=some o->match fY a.s o.guard with|some true=>yF P G a o.op λx T=>qL G ⟨a.r,fV a.s o.dst x,T⟩ b/\IH P G b n (c.eraseIdx i) ⟨a.r,fV a.s o.dst x,T⟩ K|some false=>qL G ⟨a.r,fV a.s o.dst (.v undef),a.T⟩ b/\IH P G b n (c.eraseIdx i) ⟨a.r,fV a.s o.dst (.v undef),a.T⟩ K|none=>False
def vU (P:Program) (G:L_) (p:Plan):Nat->Bool->O3->St->(St->Prop)->Prop
 |0,_,_,_,_=>False
 | n+1,gc,E,st,K=>match(p.ready E).find? p.quiet with
  | some i=>match p.hops[i]? with
   | some o=>match fY st.s o.guard with
    |some true=>match cE st.T (dW G st.s) o.op with
     |some (x,_)=>vU P G p n gc (i::E) ⟨st.r,fV st.s o.dst x,st.T⟩ K
     |none=>False
    |some false=>vU P G p n gc (i::E) ⟨st.r,fV st.s o.dst (.v undef),st.T⟩ K
    |none=>False
   |none=>False
  | none=>match p.ready E with
   |[]=>K (if gc then DB [] st else st)
   |c::cs=>∀i,i∈c::cs->∃o,p.hops[i]?=some o/\match fY st.s o.guard with
    |some true=>yF P G st o.op λy T=>qL G ⟨st.r,fV st.s o.dst y,T⟩ (if iE o.op then [] else p.pend (i::E))/\vU P G p n (gc||!cs.isEmpty) (i::E) ⟨st.r,fV st.s o.dst y,T⟩ K
    |some false=>qL G ⟨st.r,fV st.s o.dst (.v undef),st.T⟩ (if iE o.op then [] else p.pend (i::E))/\vU P G p n (gc||!cs.isEmpty) (i::E) ⟨st.r,fV st.s o.dst (.v undef),st.T⟩ K
    |none=>False
def JV(P:Program)(G:L_):HD->St->(St->Prop)->Prop
 |.done b,a,K=>K (if b then DB [] a else a)|.no,_,_=>True| .q o next,a,K=>match fY a.s o.guard with
  |some true=>match cE a.T (dW G a.s) o.op with|some (x,_)=>JV P G next ⟨a.r,fV a.s o.dst x,a.T⟩ K|none=>False
  |some false=>JV P G next ⟨a.r,fV a.s o.dst (.v undef),a.T⟩ K|none=>False
 |.alt o c next d,a,K=>(match fY a.s o.guard with|some true=>yF P G a o.op λx T=>qL G ⟨a.r,fV a.s o.dst x,T⟩ c/\JV P G next ⟨a.r,fV a.s o.dst x,T⟩ K|some false=>qL G ⟨a.r,fV a.s o.dst (.v undef),a.T⟩ c/\JV P G next ⟨a.r,fV a.s o.dst (.v undef),a.T⟩ K|none=>False)/\JV P G d a K
 |.perm c e next,a,K=>IH P G c e.length e a λs=>JV P G next s K|.plan f g n h E,a,K=>vU P G ⟨f,g⟩ n h E a K
inductive Ex where
 |normal|exit (id:Nat)|ret
def Gr(d:O3):List (Nat×AV)->List (Nat×AV)|[]=>[]|(i,x)::r=>if d.contains i then(i,x)::Gr d r else Gr d r
def yJ:List (Nat×AV)->O3->O0->List (Nat×AV)|s,p::ps,x::a=>yJ (GW s p x) ps a|s,_,_=>s
def Rl(P:Program)(f:FuncId):Prop:=∃a c,P.funcs[f]?=some a/\a.body=some c/\¬a.name = "runtime.NumGoroutine"
def left(r:Loop)(c:Code):Loop:={r with state:=.done,pending:=some c}
def JZ(i:Nat)(r:Loop)(s:List (Nat×AV))(n:Nat)(post:AV->aK->Prop)(e:Ex)(st:St):Prop :=
 ∃a:Bool,match e with|.normal=>post (.v (.bool true)) ((if a then(DB [] ⟨n,[],st.T⟩).T else st.T).set i (some (.lp r s)))|.exit id=>post (.v (.bool false)) ((if a then(DB [] ⟨n,[],st.T⟩).T else st.T).set i (some (.lp (left r (.exit id)) s)))|.ret=>post (.v (.bool false)) ((if a then(DB [] ⟨n,[],st.T⟩).T else st.T).set i (some (.lp (left r .ret) s)))
def Vv(Q:Ex->St->Prop)(r:Nat)(s:List (Nat×AV))(n:Nat)(T:aK):Prop :=
 match cR T n with
 |some (.lp rec _)=>rec.state≠.busy/\(match rec.pending with|none=>Q .normal ⟨r,s,T.set n none⟩|some (.exit id)=>Q (.exit id) ⟨r,s,T.set n none⟩|some .ret=>Q .ret ⟨r,s,T.set n none⟩|_=>False)
 |_=>False
def fZ (P:Program) (G:L_):HC->(Ex->St->Prop)->St->Prop
 |.skip,Q,h=>Q .normal h|.reg q,Q,h=>Mp P G q h (Q .normal)|.regd d,Q,h=>JV P G d h (Q .normal)|.seq a b,Q,h=>fZ P G a (λe l=>match e with|.normal=>fZ P G b Q l|e=>Q e l) h
 |.cond c a b,Q,h=>match dW G h.s c with|.v (.bool t)=>if t then fZ P G a Q h else fZ P G b Q h|_=>False
 |.block id a,Q,h=>fZ P G a (λe l=>match e with|.exit j=>if j=id then Q .normal l else Q (.exit j) l|e=>Q e l) h
 |.loop d a,Q,h=>∃I:Nat->St->Prop,(∃n,I n (DB d h)\/I n h)/\∀n s,I n s->fZ P G a (λe p=>match e with|.normal=>∃m,m<n/\(I m (DB d p)\/I m p)|e=>Q e p) s
 |.exit id,Q,h=>Q (.exit id) h|.ret,Q,h=>Q .ret h|.kill d,Q,h=>Q .normal ⟨h.r,aH8 d h.s,h.T⟩|.own j c k,Q,h=>Q .normal (QT h j c k)|.shut j,Q,h=>Q .normal (DB [] (Rk h j))| .rng g ps d a b,Q,h=>∀r:Loop,r.state=.ready->r.pending=none->r.params.size=ps.length ->
   (∀(i:Nat)(s:List (Nat×AV))(T:aK)(args:O0)(post:AV->aK->Prop),cR T i=some (.lp r s)->args.length=ps.length ->
    fZ P G a (λe u=>match e with|.normal=>fZ P G b (JZ i r s T.length post) u|_=>False) ⟨T.length,yJ s ps args,T.set i none⟩->DA P G i args T post) ->
   match dW G h.s g with
   |.cl f o=>Rl P f/\IG P G f (.yl h.T.length::o) (h.T++[some (.lp r (Gr d h.s))]) λ_ T2=>Vv Q h.r h.s h.T.length T2|_=>False
def oZ(P:Program)(t:TypeId):Option Nat:=(P.info? t).map (·.size)
def GY(P:Program)(t:TypeId):Option (Option Nat):=
 match P.underlying t,P.info? t with
 |some (.struct _),some i=>some (some i.size)|some (.array _ _),some i=>some (some i.size)|some _,some _=>some none|_,_=>none
def aGP(ag:Bool)(n:Nat):Option Nat:=if ag then some n else none
def G7 (P:Program) (g:TypeId->Option (Bool×List LK)):List Field->Nat->Option (List LK)|[],_=>some []| f::c,a=>match g f.type with
  | some (d,b)=>if f.name ≠ "_" /\ f.offset=a/\GY P f.type=some (aGP d b.length) then
   match G7 P g c (a+b.length) with
   |some l=>some (b++l)|none=>none
   else none
  |none=>none
def iF(P:Program):Nat->TypeId->Option (Bool×List LK)|0,_=>none| n+1,t=>match P.underlying t with
  |some (.int k)=>some (false,[.int k])|some .bool=>some (false,[.bool])|some .string=>some (false,[.str])|some (.struct b)=>if P.stoodInHeld t then none else match G7 P (iF P n) b.toList 0 with|some a=>some (true,a)|none=>none
  |_=>none
def Ja(P:Program)(a:List Field):List (Nat×Operand)->Option (List (Nat×Nat×Operand))|[]=>some []| (i,x)::r=>match a[i]? with|none=>none|some f=>match oZ P f.type,Ja P a r with|some n,some l=>some ((f.offset,n,x)::l)|_,_=>none
def Jb(n:Nat):List (Nat×Operand)->List (Nat×Nat×Operand)|[]=>[]|(i,x)::r=>(i*n,n,x)::Jb n r
def II(z:O5):Nat->O5|0=>[]|n+1=>z++II z n
def eqG (P:Program):Nat->TypeId->Bool
 |0,_=>true
 | d+1,t=>match P.underlying t with
  |some (.interface ms)=>!ms.isEmpty
  |some (.struct fs)=>fs.toList.any λf=>f.name != "_" && eqG P d f.type
  |some (.array _ e)=>eqG P d e
  |_=>false
def aSJ(P:Program):∀(d:Nat)(t:TypeId),eqG P d t=P.eqGuardType d t
 |0,_=>rfl
 |d+1,t=>by
  have ih:eqG P d=P.eqGuardType d:=funext (aSJ P d);unfold eqG Program.eqGuardType;rw[ih];split<;>simp_all
def aBA (P:Program) (o:Oper):Option HOp :=
 match o.op with
 |.move x=>some (.mov x)|.assign x=>some (.mov x)|.pick c a b=>some (.pick c a b)| .binOp h t x y _=>
  if h=.eql\/h=.neq then
   match P.underlying t with
   |some (.int _)=>some (.bin h x y)|some .bool=>some (.eqb (h==.neq) x y)|some .string=>some (.bin h x y)|some (.struct _)=>match iF P 20 t with|some (_,w)=>if eqG P P.depth t then none else some (.eqa (h==.neq) w x y)|none=>none
   |_=>none
  else some (.bin h x y)
 |.unOp h _ x=>some (.un h x)|.convert r s x=>match P.underlying r,P.underlying s with|some _,some (.int k)=>some (.conv k x)|_,_=>none
 |.box _ x=>some (.box x)| .alloc e=>match P.info? e with
  |some i=>match i.zero with|some z=>if z.cells.toList.all (λx=>gS (.v x)) then some (.alloc z.cells.toList) else none|none=>none
  |none=>none
 | .build t d=>match P.underlying t,P.info? t with
  |some (.struct j),some i=>match i.zero,Ja P j.toList d.toList with|some z,some l=>if j.toList.all (λf=>(oZ P f.type).isSome) then some (.bld z.cells.toList l) else none|_,_=>none
  |_,_=>none
 | .buildSlice t g d=>match P.underlying t with
  | some (.slice e)=>match P.info? e with
   |some i=>match i.zero with|some z=>if z.cells.size=i.size/\0<i.size/\g*i.size<=2^20/\0<g then some (.bsl i.size (II z.cells.toList g) (Jb i.size d.toList) g) else none|none=>none
   |none=>none
  |_=>none
 |.load t a=>match GY P t with|some n=>some (.ld n a)|none=>none
 |.store t a x=>match oZ P t with|some n=>some (.st n a x)|none=>none
 | .fieldAddr t x f=>match P.underlying t with
  | some (.struct j)=>match j[f]? with
   |some m=>match oZ P m.type with|some n=>if n=0 then none else some (.fad x m.offset)|none=>none
   |none=>none
  |_=>none
 | .field t x f=>match P.underlying t with
  | some (.struct j)=>match j[f]? with
   |some m=>match GY P m.type with|some n=>some (.fld x m.offset n)|none=>none
   |none=>none
  |_=>none
 | .indexAddr t x q=>match P.underlying t with
  |some (.slice e)=>match oZ P e with|some k=>if k=0 then none else some (.iad x q k)|none=>none
  |some (.array g e)=>match oZ P e with|some k=>some (.iadA x q g k)|none=>none
  |_=>none
 |.index t x q=>match P.underlying t with|some .string=>some (.ixS x q)|_=>none
 |.extract x i=>some (.ext x i)|.nilCheck x=>some (.nilc x)|.makeFunc (.func f) first p=>if first.size=0 then some (.clo f p.toList) else none
 | .call c=>match c.callee with
  |.value f=>some (.call f c.args.toList)| .builtin .len=>match c.argTypes[0]?,c.args.toList with
   |some t,[x]=>match P.underlying t with|some .string=>some (.lenS x)|some (.slice _)=>some (.lenL x)|_=>none
   |_,_=>none
  | .builtin .append=>match c.argTypes.toList,c.args.toList with
   | [t,u],[x,y]=>if u≠t then none else match P.underlying t with
    | some (.slice e)=>match P.info? e with
     |some i=>match i.zero with|some z=>if z.cells.size=i.size/\0<i.size then some (.app x y i.size i.bytes) else none|none=>none
     |none=>none
    |_=>none
   |_,_=>none
  |_=>none
 |_=>none
def bH{T:aK}{i:Nat}{o:AObj}(e:cR T i=some o):T[i]?=some (some o):=by unfold cR at e;split at e;rename_i a h;cases e;exact h;simp at e
def YR{T:aK}{i:Nat}{o:AObj}(e:cR T i=some o):i<T.length:=by have:=bH e;rcases eD i T.length with h|h;exact h;simp[sX h]at this
section
variable{P:Program}{G:L_}{h:GH}{φ:Nat->Value}{n:Nat}{T:aK}{w:World}{s:List (Nat×AV)}{a:Act}
def uN(h:GH)(φ:Nat->Value)(n:Nat)(s:List (Nat×AV))(a:Act):Prop:=∀i,Rp h φ n (bA s i) (a.tmps.getD i undef)
def dN(d:tU G h)(c:uN h φ n s a)(x:Operand):Rp h φ n (dW G s x) (a.eval x):=by
 cases x with
 |tmp t=>exact c t|const v=>simp[dW,Act.eval,Rp]|global g=>
  simp only[dW,Act.eval];split;rename_i e b;simp only[Rp];exact⟨g,0,rfl,d g e b⟩;simp[Rp]
 |func f=>simp only[dW,Act.eval,Rp];exact⟨#[],rfl,se⟩
def lW(c:tU G h)(b:uN h φ n s a){x:Operand}{v:Value}(e:dW G s x=.v v):a.eval x=v:=by have:=dN c b x;rw[e]at this;simpa[Rp]using this
def Mq(c:tU G h)(b:uN h φ n s a)(l:List Operand):kR h φ n (l.map (dW G s)) (l.map a.eval):=by
 induction l with
 |nil=>simp[kR]|cons x l ih=>simp only[fG,kR];exact⟨_,_,rfl,dN c b x,ih⟩
def CZ:∀{x:AV}{u:Value},Rp h φ n x u->(∀c∈dT x,gS c=true)->kR h φ n (dT x) u.cells.toList
 |.ag m,u,e,_=>by
  simp only[Rp]at e;obtain⟨p,rfl,h2⟩:=e;exact h2
 | .v x,u,e,b=>by
  simp only[Rp]at e;subst e
  cases u with
  | agg p=>
   simp only[dT,Value.cells];exact kR.mk k_ λi c u d q=>by
    simp only[gE]at d;rw[q]at d;simp at d;subst d;simp[Rp]
  |_=>simp[dT,Value.cells,kR,Rp]
 |.ls k s,u,e,_=>by
  have a:=e;simp only[Rp,oB]at a;obtain⟨A,c,rfl,_⟩:=a;simp only[dT,Value.cells,kR];exact⟨_,[],rfl,e,rfl⟩
 |.own i,u,e,_=>by
  have a:=e;simp only[Rp]at a;obtain⟨_,_,A,l,c,rfl⟩:=a;simp only[dT,Value.cells,kR];exact⟨_,[],rfl,e,rfl⟩
 |.ptr i o,u,e,_=>by
  have a:=e;simp only[Rp]at a;obtain⟨_,g,_,rfl⟩:=a;simp only[dT,Value.cells,kR];exact⟨_,[],rfl,e,rfl⟩
 |.elt i k j o,u,e,_=>by
  have a:=e;simp only[Rp]at a;obtain⟨_,g,_,_,_,rfl⟩:=a;simp only[dT,Value.cells,kR];exact⟨_,[],rfl,e,rfl⟩
 |.mp i,u,e,_=>by
  have a:=e;simp only[Rp]at a;obtain⟨_,_,g,rfl⟩:=a;simp only[dT,Value.cells,kR];exact⟨_,[],rfl,e,rfl⟩
 |.yl i,u,e,_=>by
  have a:=e;simp only[Rp]at a;obtain⟨_,_,g,rfl⟩:=a;simp only[dT,Value.cells,kR];exact⟨_,[],rfl,e,rfl⟩
 |.vw i k j o,u,e,_=>by
  have a:=e;simp only[Rp]at a;obtain⟨_,A,c,rfl,_⟩:=a;simp only[dT,Value.cells,kR];exact⟨_,[],rfl,e,rfl⟩
 |.rp m,u,e,_=>by
  have a:=e;simp only[Rp]at a;obtain⟨_,_,rfl,_⟩:=a;simp only[dT,Value.cells,kR];exact⟨_,[],rfl,e,rfl⟩
 |.cl f m,u,e,_=>by
  have a:=e;simp only[Rp]at a;obtain⟨p,rfl,_⟩:=a;simp only[dT,Value.cells,kR];exact⟨_,[],rfl,e,rfl⟩
 |.bm f r m,u,e,_=>by
  have a:=e;simp only[Rp]at a;obtain⟨p,rfl,_⟩:=a;simp only[dT,Value.cells,kR];exact⟨_,[],rfl,e,rfl⟩
 |.tup m,u,e,b=>by simp[dT,gS]at b|.any,u,e,b=>by simp[dT,gS]at b
def Lr:∀{x:AV}{u:Value},Rp h φ n x u->gS x=true->u.oneCell'=true
 |.v x,u,e,a=>by
  simp only[Rp]at e;subst e;cases u<;>simp_all[gS,Value.oneCell']
 |.ls k p,u,e,_=>by simp only[Rp,oB]at e;obtain⟨A,c,rfl,_⟩:=e;rfl
 |.own i,u,e,_=>by simp only[Rp]at e;obtain⟨_,_,A,l,c,rfl⟩:=e;rfl
 |.ptr i o,u,e,_=>by simp only[Rp]at e;obtain⟨_,g,_,rfl⟩:=e;rfl
 |.elt i k j o,u,e,_=>by simp only[Rp]at e;obtain⟨_,g,_,_,_,rfl⟩:=e;rfl
 |.vw i k j o,u,e,_=>by simp only[Rp]at e;obtain⟨_,A,c,rfl,_⟩:=e;rfl
 |.mp i,u,e,_=>by simp only[Rp]at e;obtain⟨_,_,g,rfl⟩:=e;rfl
 |.yl i,u,e,_=>by simp only[Rp]at e;obtain⟨_,_,g,rfl⟩:=e;rfl
 |.rp b,u,e,_=>by simp only[Rp]at e;obtain⟨_,_,rfl,_⟩:=e;rfl
 |.cl f b,u,e,_=>by simp only[Rp]at e;obtain⟨d,rfl,_⟩:=e;rfl
 |.bm f m b,u,e,_=>by simp only[Rp]at e;obtain⟨d,rfl,_⟩:=e;rfl
 |.ag b,u,e,a=>by simp[gS]at a|.tup b,u,e,a=>by simp[gS]at a|.any,u,e,a=>by simp[gS]at a
def YS{cs:O0}{us:O5}(a:kR h φ n cs us){off:Nat}{x:AV}:∀{m:Option Nat},Mo cs off m=some x ->
  match m with
  |none=>∃u,us[off]?=some u/\Rp h φ n x u
  |some k=>off+k<=us.length/\Rp h φ n x (.agg ((us.drop off).take k).toArray)
 |none,e=>by
  simp only[Mo]at e;exact a.get e
 |some k,e=>by
  simp only[Mo]at e;split at e
  ·rename_i b;injection e with e;subst e;have c:=a.length;exact⟨o_,by simp only[Rp];exact⟨_,rfl,by simpa using(a.drop off).take k⟩⟩
  ·simp at e
def QU{i:Nat}{cs:O0}(hI:Inv h φ w T)(a:cR T i=some (.box cs)):
 ∃(g:Nat)(us:Array Value)(E:TypeId),φ i=.pointer (some ⟨g,0,none⟩)/\w.heap[g]?=some (.cells us E (0,0))/\h g=none/\kR h φ T.length cs us.toList :=
 hI.obj i _ (bH a)
def DD{g:Nat}{us:Array Value}{E:TypeId}{b:Nat×Nat}(a:w.heap[g]?=some (.cells us E b))(o:Nat):w.cell? ⟨g,o,none⟩=us[o]?:=by simp[World.cell?,a]
def Tf{b o:Nat}{u:Value}(hI:Inv h φ w T)(e:oY h b o=some u):w.cell? ⟨b,o,none⟩=some u:=by
 unfold oY at e
 cases a:h b with
 |none=>simp[a]at e|some d=>
  obtain⟨E,f,c⟩:=hI.gh b d a;rw[DD c];simpa[a]using e
def Fu{t:TypeId}{m:Option Nat}(e:GY P t=some m):
 match m with
 |none=>(isAgg t).run P w=.ok false w/\True|some k=>(isAgg t).run P w=.ok true w/\(Go.sizeOf t).run P w=.ok k w:=by
 unfold GY at e;split at e;rename_i f i a b;cases e;simp[isAgg,run_underlying a,Go.sizeOf,typeInfo,b];rename_i l g i a b;cases e;simp[isAgg,run_underlying a,Go.sizeOf,typeInfo,b];rename_i d i c h2 a b;cases e;refine⟨?_,trivial⟩;simp only[isAgg,Sem.run_bind,run_underlying a,Result.andThen_ok];cases d<;>first|rfl|(exfalso;first|exact c _ rfl|exact h2 _ _ rfl)
 simp at e
def Vw{t:TypeId}{m:Option Nat}(e:GY P t=some m){b o:Nat}{us:O5}(g:∀j u,us[j]?=some u->w.cell? ⟨b,o+j,none⟩=some u):
 match m with
 |none=>∀u,us[0]?=some u->(loadVar t ⟨b,o,none⟩).run P w=.ok u w|some k=>k<=us.length->(loadVar t ⟨b,o,none⟩).run P w=.ok (.agg (us.take k).toArray) w:=by
 have d:=Fu (w:=w) e
 cases m with
 |none=>
  intro u h;have:=g 0 u h;simp only[mG]at this;simp[loadVar,d.1,this]
 | some k=>
  intro i
  have f:=run_loadCells_list (P:=P) (w:=w) ⟨b,o,none⟩ (us.take k) (λj v c=>by
   have:(⟨b,o,none⟩:Addr).add j=⟨b,o+j,none⟩:=by unfold Addr.add;split<;>simp_all
   rw[this];apply g j v;rw[BT]at c;split at c;exact c
   simp at c)
  have a:(us.take k).length=k:=f_;rw[a]at f;simp[loadVar,d.1,d.2,f]
end
section
variable{P:Program}{G:L_}{h:GH}{φ:Nat->Value}{T:aK}{w:World}{s:List (Nat×AV)}{a:Act}
def Rm {op:BinOp} {t:TypeId} {x y:Operand} {a b u:Value} (e:bV op a b=some u):
    (do eqGuard op t x y a b;binOp op t a b:Sem Value).run P w=.ok u w:=by
  unfold bV at e;split at e
  · rename_i k p d q
    cases op
    case shl=>
      simp only at e
      split at e
      · simp at e
      · rename_i c
        injection e with e;subst e
        have:(binOp BinOp.shl t (Value.int k p) (Value.int d q))=Op.shift BinOp.shl k p d q:=rfl
        simp[eqGuard,this,Op.shift,c]
    case shr=>
      simp only at e
      split at e
      · simp at e
      · rename_i c
        injection e with e;subst e
        have:(binOp BinOp.shr t (Value.int k p) (Value.int d q))=Op.shift BinOp.shr k p d q:=rfl
        simp[eqGuard,this,Op.shift,c]
    all_goals
      simp only at e
      split at e
      · rename_i g
        subst g
        first
          |(injection e with e;subst e;simp[eqGuard,binOp,Op.intArith,Op.intBits,Op.intCmp];done)
          | (split at e
             · simp at e
             · rename_i c
               injection e with e;subst e;simp[eqGuard,binOp,Op.intDiv,c])
          |(simp at e;done)
      · simp at e
  · rename_i p q
    cases op<;>simp only at e<;>(try split at e)<;>(try (simp at e;done))<;>(injection e with e;subst e)<;>(try (simp[eqGuard,binOp,Op.stringOp];done))
    rename_i f
    unfold maxLen at f
    simp[eqGuard,binOp,Op.stringOp]
    omega
  · simp at e
def Mr{t:TypeId}(e:P.underlying t=some .bool){a b:Bool}:(Op.equal t (.bool a) (.bool b)).run P w=.ok (a==b) w:=by
 have c:∀d,(Op.equalIn (d+1) t (.bool a) (.bool b)).run P w=.ok (a==b) w:=λd=>by simp[Op.equalIn,run_underlying e]
 exact c 9999
def aEW{op:BinOp}(cE:op=.eql\/op=.neq){t:TypeId}(c:P.underlying t=some .bool){x y:Operand}{a b:Bool}:
 (do eqGuard op t x y (.bool a) (.bool b);binOp op t (.bool a) (.bool b):Sem Value).run P w=.ok (.bool (if op==.neq then !(a==b) else a==b)) w:=by
 rcases cE with rfl|rfl;have e:binOp .eql t (.bool a) (.bool b)=(do pure (.bool (<-Op.equal t (.bool a) (.bool b)))):=rfl;rw[e];simp[eqGuard,Mr c];have e:binOp .neq t (.bool a) (.bool b)=(do pure (.bool (!(<-Op.equal t (.bool a) (.bool b))))):=rfl;rw[e];simp[eqGuard,Mr c]
def aHj{op:UnOp}{a u:Value}(e:pun op a=some u):(Op.unary op a).run P w=.ok u w:=by
 unfold pun at e;split at e
 ·cases op<;>simp only at e<;>(try (simp at e;done))<;>(cases e;simp[Op.unary])
 ·rename_i k p;cases op<;>simp only at e<;>(try (simp at e;done))<;>(cases e;simp[Op.unary,Op.intArith,Op.intBits])
 simp at e
end
end Hud
