/- A contract: an expression is written. -/
import Derived.Test.YtmglkghngkbioaaGreatDoorPayC98
import Derived.Test.YtmglkghngkbioaaGreatDoorPayMSw5
set_option linter.unusedSimpArgs false
set_option linter.unusedVariables false
set_option maxHeartbeats 1000000
namespace Pay
open Go
attribute [local irreducible] wpB opsB treeB drawB
def oR (r:Option (List (List D))):Option Ob:=r.map (Ob.row 3)
theorem freshO_oR (nm k:Nat)(r:Option (List (List D)))(m:List (Nat × Option Ob)):freshO nm ((k,oR r)::m)=freshO nm m:=by
  cases r <;> simp [oR,freshO,Ob.refs]
theorem quietL_oR {vs:List V}{k:Nat}(r:Option (List (List D)))(m:List (Nat × Option Ob))(h:V.refsL k vs=false):quietL vs ((k,oR r)::m)=quietL vs m:=by
  cases r <;> simp [oR,quietL,h]
theorem scrub_oR (n:Nat)(r:Option (List (List D))):Option.map (Ob.scrub n) (oR r)=oR r:=by
  cases r <;> rfl
theorem freshOE_oR (ns:List Nat)(nm k:Nat)(r:Option (List (List D)))(m:List (Nat × Option Ob)):freshOE ns nm ((k,oR r)::m)=freshOE ns nm m:=by
  cases r <;> simp [oR,freshOE,Ob.refs]
theorem top_get (l:List (List D))(e:List D):(l++[e])[l.length]? = some e:=by simp
theorem top_take (l:List (List D))(e:List D):(l++[e]).take l.length=l:=by simp
def wSt (p:Prog)(st:List It)(r r':Option (List (List D)))(out:List UInt8):List (Nat × Option Ob) :=
  [(2,some (pBox p)),(5,some (.bld 505)),(13,some (.row 3 (st.reverse.map encIt))),(50,oR r),(58,oR r'),(60,none),(63,none),(68,none),(505,some (.brow out))]
structure WrK (C:Ctx) (p:Prog):Prop where
  parts:∀ x∈p.exprs,∀ m:Nat,SoundAt C 210 ⟨[vX x],looko []⟩ ⟨.own m,looko [(m,some (.row 3 ((partsW x).map encIt)))]⟩
  level:∀ op:List UInt8,SoundAt C 211 ⟨[vS op],looko []⟩ ⟨vI (lvlS op),looko []⟩
  rev:∀ (n:Nat) (es:List (List D)),es.length<100000000→(∀ e∈es,e.length=3)→SoundAt C 212 ⟨[.own n],looko (oL [(n,.row 3 es)])⟩ ⟨.tup [],looko (oL [(n,.row 3 es.reverse)])⟩
  bw:BdW C
  bs:BdS C
theorem refs_row (n sz:Nat)(es:List (List D)):refsIn [(n,.row sz es)]:=by
  intro p hp m hm
  simp only [List.mem_singleton] at hp
  subst hp
  simp [Ob.refs] at hm
theorem callK_rev {C:Ctx}{I:Nat→Prop}{st:St}{dst:Option Nat}{F:V→(Nat→Option Ob)→Prop}{n:Nat}{es:List (List D)}(h:SoundAt C 212 ⟨[.own n],looko (oL [(n,.row 3 es)])⟩ ⟨.tup [],looko (oL [(n,.row 3 es.reverse)])⟩)
    (ho:st.o n=some (.row 3 es)) (hK:F (.tup []) (upd st.o n (some (.row 3 es.reverse)))):callK C I st dst 212 [.own n] F :=
  callK_objs [(n,.row 3 es)] [(n,.row 3 es.reverse)] ⟨ho,trivial⟩ rfl (refs_row n 3 es.reverse) h (fun m hm=>by simp [V.refs,V.refsL] at hm) hK
theorem wr_b2 {a u t k:Nat}(h:a+(u+t)+512*(k+1)≤1000000000):a+u+t+512*(k+1)≤1000000000∧a+u≤140737488355328:=by omega
theorem wr_b3 {a u t k:Nat}(h:a+t+512*(k+1)≤1000000000)(hu:u≤512):a+(u+t)+512*k≤1000000000:=by omega
theorem wr_b4 {a b k:Nat}(h:a+1+8*(k+1)≤1000000)(hb:b≤8):b+a+8*k≤1000000∧a≤1000000:=by omega
theorem wr_b5 {a b k N:Nat}(h:a+1+9*(k+1)≤N+1)(hb:b≤8):b+a+9*k≤N:=by omega
theorem wr_loop {C:Ctx} {I:Nat→Prop} {Q:Ex→St→Prop} {p:Prog} (hI:∀ n,¬I n) (K:WrK C p) (hE:OkE p.exprs) {W:List UInt8}
    (hT:∀ t st r r',t 5 = .ptr 5 0→Q (.exit 0) (St.mk t (looko (wSt p st r r' W)))) :
    ∀ (N k:Nat) (st:List It) (r r':Option (List (List D))) (out:List UInt8),st.length+9*k≤N→(∀ it∈st,ItOk p.exprs.length it)→st.length+8*k≤1000000→out.length+tl st+512*k≤1000000000→k≤p.exprs.length+1→out++wrM p.exprs k st=W →
      wpB C I g_show_write.l0 (St.mk (look [(2,.ptr 2 0),(5,.ptr 5 0),(6,.own 13),(7,vI ((k:Int)-1))]) (looko (wSt p st r r' out))) Q:=by
  intro N
  induction N with
  | zero =>
    intro k st r r' out hN hok hb1 hb2 hk hW
    have hst:st=[]:=List.eq_nil_of_length_eq_zero (by omega)
    subst hst
    rw [wrM_nil,List.append_nil] at hW
    subst hW
    have ex:=fun t h=>hT t [] r r' h
    simp only [wSt,List.reverse_nil,List.map_nil] at ex ⊢
    refine w_loopC (L:=g_show_write.l0) rfl ?_
    repeat (first|simp only [go_sem,Int.lt_irrefl,decide_false,gt_iff_lt]|refine Unf.h ?_)
    refine ex _ ?_
    rfl
  | succ N ih =>
    intro k st r r' out hN hok hb1 hb2 hk hW
    cases st with
    | nil =>
      rw [wrM_nil,List.append_nil] at hW
      subst hW
      have ex:=fun t h=>hT t [] r r' h
      simp only [wSt,List.reverse_nil,List.map_nil] at ex ⊢
      refine w_loopC (L:=g_show_write.l0) rfl ?_
      repeat (first|simp only [go_sem,Int.lt_irrefl,decide_false,gt_iff_lt]|refine Unf.h ?_)
      refine ex _ ?_
      rfl
    | cons it st =>
      cases k with
      | zero =>
        have hW:out=W:=by rw [← hW];simp [wrM]
        subst hW
        have ex:=fun t h=>hT t (it::st) r r' h
        have hpos:((0:Int)<((st.length+1:Nat):Int)):=by omega
        simp only [wSt] at ex ⊢
        rw [show ((0:Nat):Int)-1 = -1 from rfl]
        refine w_loopC (L:=g_show_write.l0) rfl ?_
        have h1:¬((0:Int) ≤ -1):=by omega
        repeat (first|simp only [go_sem,List.length_map,List.length_reverse,List.length_cons,hpos,decide_true,decide_false,gt_iff_lt,h1,ge_iff_le]|refine Unf.h ?_)
        refine ex _ ?_
        rfl
      | succ k =>
        have hlen:((st.reverse.map encIt).length:Int)=(st.length:Int):=by simp
        have hpos:((0:Int)<(st.length:Int)+1):=by omega
        have hk0:(0:Int)≤(k:Int):=by omega
        rw [show ((k+1:Nat):Int)-1=(k:Int) by omega]
        have erow:(it::st).reverse.map encIt=st.reverse.map encIt++[encIt it]:=by simp
        have g1:=fun e=>top_get (st.reverse.map encIt) e
        have g2:=fun e=>top_take (st.reverse.map encIt) e
        rw [show (st.reverse.map encIt).length=st.length by simp] at g1 g2
        have hw:=wrapI (x:=(st.length:Int)) (by omega) (by simp only [List.length_cons] at hb1;omega)
        have hsub:(st.length:Int)+1-1=st.length:=by omega
        have ht:(st.length:Int).toNat=st.length:=by omega
        have hle:(st.length:Int)≤(st.length:Int)+1:=by omega
        have hlt:(st.length:Int)<(st.length:Int)+1:=by omega
        have h0:(0:Int)≤(st.length:Int):=by omega
        cases it with
        | s u =>
          have hu:u≠[]:=hok (.s u) (by simp)
          have hub:(u==[])=false:=by simp [hu]
          have hW2:(out++u)++wrM p.exprs (k+1) st=W:=by
            have h:=hW
            rw [wrM_s] at h
            rw [List.append_assoc]
            exact h
          have hbb:=wr_b2 (a:=out.length) (u:=u.length) (t:=tl st) (k:=k) hb2
          have hb2':(out++u).length+tl st+512*(k+1)≤1000000000:=by rw [List.length_append];exact hbb.1
          have ih':=ih (k+1) st r r' (out++u) (by simp only [List.length_cons] at hN;omega) (fun x hx=>hok x (List.mem_cons_of_mem _ hx)) (by simp only [List.length_cons] at hb1;omega) hb2' hk hW2
          have hbl:out.length+u.length≤140737488355328:=hbb.2
          rw [show ((k+1:Nat):Int)-1=(k:Int) by omega] at ih'
          simp only [wSt,erow] at ih' ⊢
          refine w_loopC (L:=g_show_write.l0) rfl ?_
          repeat (first|simp only [go_sem,List.length_append,List.length_map,List.length_reverse,Int.natCast_add,hpos,decide_true,gt_iff_lt,ge_iff_le,hk0,hsub,hw,ht,hlt,h0,g1,g2,encIt,hI,freshO_oR,scrub_oR,hle,bndK_s,hub,bne]|refine Unf.h ?_)
          refine callK_bw (n:=5) (k:=505) (l:=out) K.bw hbl (by simp only [go_sem,bL,freshOE,objsIn_cons,objsIn_nil,hI,freshOE_oR,List.contains_cons,List.contains_nil]) ?_
          repeat (first|simp only [go_sem,bL,updL_cons,updL_nil,scrub_oR]|refine Unf.h ?_)
          exact ih'
        | x i l =>
          have hio:0≤i∧i<(p.exprs.length:Int):=hok (.x i l) (by simp)
          have hin:i.toNat<p.exprs.length:=by omega
          have e1:=List.getElem?_eq_getElem hin
          obtain ⟨x,hx⟩:∃ x,p.exprs[i.toNat]=x:=⟨_,rfl⟩
          rw [hx] at e1
          have hm:=List.mem_of_getElem? e1
          have hs:=soundXs_get hE.sound _ _ e1
          rw [Nat.zero_add] at hs
          have hsi:=soundX_iff hs
          have hz:=open_size (hE.vals x hm) hsi.2.2.2.1 hsi.2.2.2.2 l
          have hzp:=parts_size (hE.vals x hm) hsi.2.2.2.1 hsi.2.2.2.2
          have hgo:=open_ok hin hs l
          have hW2:out++wrM p.exprs k (openW x l++st)=W:=by
            have h:=hW
            rw [wrM_x e1] at h
            exact h
          have hbx:=wr_b3 (a:=out.length) (u:=tl (openW x l)) (t:=tl st) (k:=k) hb2 hz.2
          have hst:=wr_b4 hb1 hz.1
          have hnn:=wr_b5 hN hz.1
          have ih':=fun r r'=>ih k (openW x l++st) r r' out (by rw [List.length_append];exact hnn) (fun y hy=>by
            rcases List.mem_append.1 hy with h|h
            · exact hgo y h
            · exact hok y (List.mem_cons_of_mem _ h)) (by rw [List.length_append];exact hst.1) (by rw [tl_app];exact hbx) (Nat.le_of_succ_le hk) hW2
          have eo:(openW x l++st).reverse.map encIt=st.reverse.map encIt++((openW x l).map encIt).reverse:=by simp [List.map_reverse]
          have tp:=K.parts x hm 50
          have tv:=K.level x.op
          have hwk:=wrapI (x:=(k:Int)-1) (by omega) (by omega)
          have h210:=encIt_len (partsW x)
          have hio1:=hio.1
          have hio2:=hio.2
          simp only [wSt,erow,eo] at ih' ⊢
          refine w_loopC (L:=g_show_write.l0) rfl ?_
          repeat (first|simp only [go_sem,List.length_append,List.length_map,List.length_reverse,Int.natCast_add,hpos,decide_true,gt_iff_lt,ge_iff_le,hk0,hsub,hw,ht,hlt,h0,g1,g2,encIt,hI,freshO_oR,scrub_oR,hle,bndK_s,bne,getMap encX e1,encX,hio1,hio2,hwk]|refine Unf.h ?_)
          refine callK_own tp (hI 50) (by simp only [go_sem,freshO_oR]) ?_
          have hlp:=hzp.1
          have hst2:=hst.2
          by_cases hlv:lvlS x.op<l
          · have eW:openW x l = .s [40]::partsW x++[.s [41]]:=if_pos hlv
            have eM:(openW x l).map encIt=[D.str [40],D.int .i64 0,D.int .i64 0]::((partsW x).map encIt++[[D.str [41],D.int .i64 0,D.int .i64 0]]):=by rw [eW];simp [encIt,dI]
            have hM:=encIt_len (openW x l)
            have tr:=K.rev 58 ((openW x l).map encIt) (by rw [List.length_map];omega) hM
            rw [eM] at hM ih' tr
            have hMr:=fun e he=>hM e (List.mem_reverse.1 he)
            repeat (first|simp only [go_sem,hlv,decide_true,freshO_oR,scrub_oR,quietL_oR,partsN,readD,h210,List.length_append,List.length_map,hI,dI]|refine Unf.h ?_|refine And.intro ?_ (noRv_of (by simp only [go_sem]))|refine callK_plain (tv) (fun _=>rfl) ?_|refine callE_plain (tv) (fun _=>rfl) ?_|refine ⟨_,tv,fun _=>rfl,?_⟩|refine And.intro (by omega) ?_)
            refine callK_rev tr (by simp only [go_sem]) ?_
            repeat (first|simp only [go_sem,readD,scrub_oR,List.length_append,List.length_map,List.length_reverse,hI]|refine Unf.h ?_|refine And.intro ?_ (noRv_of (by simp only [go_sem]))|refine And.intro hMr ?_|refine And.intro (by omega) ?_)
            exact ih' (some _) (some _)
          · have eW:openW x l=partsW x:=if_neg hlv
            have tr:=K.rev 50 ((partsW x).map encIt) (by rw [List.length_map];omega) h210
            have hMr:=fun e he=>h210 e (List.mem_reverse.1 he)
            rw [eW] at ih'
            repeat (first|simp only [go_sem,hlv,decide_false,freshO_oR,scrub_oR,quietL_oR,partsN,readD,h210,List.length_append,List.length_map,hI,dI]|refine Unf.h ?_|refine And.intro ?_ (noRv_of (by simp only [go_sem]))|refine callK_plain (tv) (fun _=>rfl) ?_|refine callE_plain (tv) (fun _=>rfl) ?_|refine ⟨_,tv,fun _=>rfl,?_⟩|refine And.intro (by omega) ?_)
            refine callK_rev tr (by simp only [go_sem]) ?_
            repeat (first|simp only [go_sem,readD,scrub_oR,List.length_append,List.length_map,List.length_reverse,hI]|refine Unf.h ?_|refine And.intro ?_ (noRv_of (by simp only [go_sem]))|refine And.intro hMr ?_|refine And.intro (by omega) ?_)
            exact ih' (some _) r'
theorem showWrite {C:Ctx}(h:okFn C.P C.φ 200 g_show_write=true){p:Prog}(K:WrK C p)(hE:OkE p.exprs){i:Int}(hi:0≤i∧i<(p.exprs.length:Int)):SoundAt C 200 ⟨[vProg p,vI i],looko []⟩ ⟨vS (writeW p.exprs i),looko []⟩:=by
  have hl:=hE.len
  refine SoundAt.of_run h rfl (fun Q hR hN => ?_)
  rw [entry2]
  have lp:=fun {I:Nat→Prop} {Q:Ex→St→Prop} (hI:∀ n,¬I n)=>wr_loop (C:=C) (I:=I) (Q:=Q) (W:=writeW p.exprs i) hI K hE
  have e0 : ∀ {I:Nat→Prop} {Q:Ex→St→Prop},(∀ n,¬I n)→(∀ t st r r',t 5 = .ptr 5 0→Q (.exit 0) (St.mk t (looko (wSt p st r r' (writeW p.exprs i)))))→wpB C I g_show_write.l0
    { s:=look [(2,V.ptr 2 0),(5,V.ptr 5 0),(6,V.own 13),(7,V.d (D.int IntKind.i64 p.exprs.length))],
      o:=looko [(2,some (Ob.box [V.d (D.sl (List.map encRl p.rules)),V.d (D.sl (List.map encX p.exprs))])),(5,some (Ob.bld 505)),(13,some (Ob.row 3 [[D.str [],D.int IntKind.i64 i,D.int IntKind.i64 0]])),
            (50,none),(58,none),(60,none),(63,none),(68,none),(505,some (Ob.brow []))] } Q:=by
    intro I Q hI hT
    have e:=wr_loop (C:=C) (I:=I) (Q:=Q) (W:=writeW p.exprs i) hI K hE hT (1+9*(p.exprs.length+1)) (p.exprs.length+1) [.x i 0] none none [] (by simp) (fun it hit=>by
      simp only [List.mem_singleton] at hit
      subst hit;exact hi) (by simp only [List.length_singleton];omega) (by simp only [tl,List.length_nil];omega) (Nat.le_refl _) (by rw [List.nil_append];rfl)
    rw [show ((p.exprs.length+1:Nat):Int)-1=(p.exprs.length:Int) by omega] at e
    exact e
  repeat (first|simp only [go_sem,partsN,List.length_map]|refine Unf.h ?_|refine And.intro ?_ (noRv_of (by simp only [go_sem])))
  refine e0 (fun _ h=>h) (fun t st r r' h5 => ?_)
  simp only [wSt]
  repeat (first|simp only [go_sem,h5]|refine Unf.h ?_|refine And.intro ?_ (noRv_of (by simp only [go_sem])))
  refine callK_bs (n:=5) (k:=505) (l:=writeW p.exprs i) K.bs ⟨by decide,by simp only [go_sem,bL,objsIn_cons,objsIn_nil]⟩ ?_
  repeat (first|simp only [go_sem]|refine Unf.h ?_|refine And.intro ?_ (noRv_of (by simp only [go_sem])))
  refine hR _ ?_
  simp only [go_sem]
end Pay
