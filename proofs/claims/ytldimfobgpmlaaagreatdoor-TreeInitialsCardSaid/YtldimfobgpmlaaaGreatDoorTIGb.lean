/- The walks, part 1: the Go functions compute their plain functions. Printed by a program of this claim's author. Conditions: none but that the plain function has a value. -/
import Derived.Test.YtldimfobgpmlaaaGreatDoorTIGa
set_option autoImplicit true
set_option linter.unusedVariables false
set_option maxRecDepth 100000
set_option maxHeartbeats 40000000
namespace Go.Lg
open Go Go.Proofs
variable {G : Store} {S : List Seg} {w : World}
theorem c28 {v0 : Value} {d0 : Property} (I : Inv w G S) {r : Bool} (h0 : RepV G v0 d0) (p : l2_BigProperty d0 = some r) :
 Calls Tryz.prog 28 #[v0] w (RV (Rt G S r)) := by
 have _:=h0
 obtain ⟨a,b,c,d,rfl,f,g,h,i⟩:=Property.unp h0
 refine nt (n:=47) 2 [_] (h:=rfl) (res1 rfl) fun _=>sg (o_box I rfl rfl rfl (cs:=[.string d0.name,it d0.kind,a,b,c,d]) rfl fun j _ k=>nf (o_p 1 rfl (en (sq (sg (o_p 1 rfl (lt k 0 rfl (o_p 3 rfl (obk p fun l m p=>oq (fun s w=>Inv w G ([(j,blk [.string d0.name,it d0.kind,a,b,c,d] 30)]::S)∧Hx s [(1,pt j),(31,.bool l)]) ?_ ?_)))))))))
 replace p:=m
 refine sp 8 p rfl (fun p=>?_) fun p=>?_
 cases p
 exact o_p 23 rfl (o_nil (⟨k,hx rfl⟩))
 refine o_p 1 rfl (lt k 0 rfl ?_)
 obtain ⟨_,_,rfl,_⟩:=f.slice
 refine o_p 4 rfl (sp 14 p rfl (fun p=>?_) fun p=>?_)
 cases p
 exact o_p 17 rfl (o_nil (⟨k,hx rfl⟩))
 refine o_p 1 rfl (lt k 0 rfl ?_)
 obtain ⟨_,_,rfl,_⟩:=g.slice
 refine o_p 4 rfl (sp 20 p rfl (fun p=>?_) fun p=>?_)
 cases p
 exact o_p 11 rfl (o_nil (⟨k,hx rfl⟩))
 refine o_p 1 rfl (lt k 0 rfl ?_)
 obtain ⟨_,_,rfl,_⟩:=h.slice
 refine o_p 4 rfl (sp 26 p rfl (fun p=>?_) fun p=>?_)
 cases p
 exact o_p 5 rfl (o_nil (⟨k,hx rfl⟩))
 refine o_p 1 rfl (lt k 0 rfl ?_)
 obtain ⟨_,_,rfl,_⟩:=i.slice
 cases p
 exact o_p 3 rfl (o_nil (⟨k,hx rfl⟩))
 rintro s _ ⟨n,_,rfl⟩
 refine nx (cd p rfl (fun p=>?_) fun p=>?_)
 cases p
 exact pg rfl (rt (pr (Rt.mk lr (n.del 0) rb)))
 refine sn (sq (pg rfl (obk p fun o t p=>cq (fun s w=>∃ u : Unit,o = .inl u∧Inv w G ([(j,blk [.string d0.name,it d0.kind,a,b,c,d] 30)]::S)∧Hx s []) ?_ ?_)))
 have v:=p
 refine bk (fun (x : Int) s w=>Inv w G ([(j,blk [.string d0.name,it d0.kind,a,b,c,d] 30)]::S)∧Hx s [(1,pt j),(3,it x)]) t ⟨n,hx rfl⟩ ?_
 clear t
 rintro x _ s _ p ⟨y,_,rfl⟩
 refine sq (sg (o_p 2 rfl (lt y 0 rfl ?_)))
 obtain ⟨_,_,rfl,_⟩:=g.slice
 refine o_p 2 rfl (en (cd p rfl (fun p=>?_) fun p=>?_))
 refine sn (sq (wpC_block (sg (o_p 1 rfl (lt y 0 rfl (o_p 1 rfl (obk p fun z A p=>ix g.slice A rfl rfl fun _ B=>o_p 1 rfl (ld y (show PtrTo _ _ z.states from (PtrTo.fld B 0 rfl rfl)) rfl fun _ C=>?_))))))))
 obtain ⟨_,_,rfl,_⟩:=C.slice
 refine o_p 2 rfl (en (cd p rfl (fun p=>?_) fun p=>?_))
 refine pg rfl (rt (br (pr ?_)))
 cases p
 refine ⟨_,rfl,?_⟩
 rintro rfl
 have p:=v
 cases p
 exact br (pr (pr (Rt.mk lr (y.del 0) rb)))
 refine wpC_skip ?_
 cases p
 exact bn (nx (rg (o_p 3 rfl (o_nil (nx ⟨_,rfl,⟨y,hx rfl⟩⟩)))))
 refine ex (px ?_)
 cases p
 refine ⟨_,rfl,?_⟩
 rintro rfl
 exact bh (nx (⟨_,rfl,y,hx rfl⟩))
 rintro s _ ⟨u,rfl,v,_,rfl⟩
 cases p
 exact nx (pg rfl (rt (Rt.mk lr (v.del 0) rb)))
theorem c30 {v0 v1 v2 : Value} {d0 : Int} {d1 : List Int} {d2 : List Int} (I : Inv w G S) {r : Bool} (h0 : RepV G v0 d0) (h1 : RepV G v1 d1) (h2 : RepV G v2 d2) (p : t_ValidTree d0 d1 d2 = some r) :
 Calls Tryz.prog 30 #[v0, v1, v2] w (RV (Rt G S r)) := by
 obtain rfl:=h0.int
 refine nt (n:=64) 6 [_,_,_] (h:=rfl) (res1 rfl) fun _=>pg rfl (sq (sg (o_p 1 rfl ?_)))
 obtain ⟨a,b,rfl,_⟩:=h1.slice
 refine o_p 3 rfl (obk p fun c d p=>oq (fun s w=>Inv w G S∧Hx s [(0,it d0),(1,(.slice a d1.length b)),(2,v2),(24,.bool c)]) ?_ ?_)
 replace p:=d
 refine sp 13 p rfl (fun p=>?_) fun p=>?_
 cases p
 exact o_p 11 rfl (o_nil (⟨I,hx rfl⟩))
 refine o_p 5 rfl (sp 18 p rfl (fun p=>?_) fun p=>?_)
 cases p
 exact o_p 6 rfl (o_nil (⟨I,hx rfl⟩))
 refine o_p 1 rfl ?_
 obtain ⟨_,_,rfl,_⟩:=h2.slice
 cases p
 exact o_p 5 rfl (o_nil (⟨I,hx rfl⟩))
 rintro s _ ⟨f,_,rfl⟩
 refine nx (cd p rfl (fun p=>?_) fun p=>?_)
 cases p
 exact pg rfl (rt (pr (Rt.mk lr f rb)))
 refine sn (pg rfl (sq (pg rfl (obk p fun g h p=>cq (fun s w=>∃ i : Int,g = .inl i∧Inv w G S∧Hx s [(7,it i)]) ?_ ?_))))
 have j:=p
 refine bk (fun (k : Int × Int) s w=>Inv w G S∧Hx s [(0,it d0),(2,v2),(7,it k.1),(25,(.slice a d1.length b)),(26,it (d1.length : Int)),(27,it k.2)]) h ⟨f,hx rfl⟩ ?_
 clear h
 rintro k _ s _ p ⟨l,_,rfl⟩
 refine pg rfl (sq (cd p rfl (fun p=>?_) fun p=>?_))
 refine sn (sq (wpC_block (sg (o_p 1 rfl (obk p fun m n p=>ix h1.slice n rfl rfl fun _ o=>ld l o rfl fun _ t=>?_)))))
 obtain rfl:=t.int
 refine o_p 2 rfl (en (sq (sg (o_p 3 rfl (obk p fun u v p=>oq (fun s w=>Inv w G S∧Hx s [(0,it d0),(2,v2),(7,it k.1),(9,it m),(25,(.slice a d1.length b)),(26,it (d1.length : Int)),(27,it k.2),(56,.bool u)]) ?_ ?_)))))
 replace p:=v
 refine sp 34 p rfl (fun p=>?_) fun p=>?_
 cases p
 exact o_p 22 rfl (o_nil (⟨l,hx rfl⟩))
 refine o_p 3 rfl (sp 37 p rfl (fun p=>?_) fun p=>?_)
 refine o_p 5 rfl (sp 42 p rfl (fun p=>?_) fun p=>?_)
 cases p
 exact o_p 14 rfl (o_nil (⟨l,hx rfl⟩))
 refine o_p 2 rfl (obk p fun _ x p=>ix h2.slice x rfl rfl fun _ y=>ld l y rfl fun _ z=>?_)
 obtain rfl:=z.int
 refine o_p 3 rfl (sp 49 p rfl (fun p=>?_) fun p=>?_)
 cases p
 exact o_p 7 rfl (o_nil (⟨l,hx rfl⟩))
 refine o_p 2 rfl (obk p fun _ A p=>ix h2.slice A rfl rfl fun _ B=>ld l B rfl fun _ C=>?_)
 obtain rfl:=C.int
 cases p
 exact o_p 3 rfl (o_nil (⟨l,hx rfl⟩))
 refine o_p 7 rfl (obk p fun _ x p=>ix h2.slice x rfl rfl fun _ y=>ld l y rfl fun _ z=>?_)
 obtain rfl:=z.int
 refine o_p 3 rfl (sp 49 p rfl (fun p=>?_) fun p=>?_)
 cases p
 exact o_p 7 rfl (o_nil (⟨l,hx rfl⟩))
 refine o_p 2 rfl (obk p fun _ A p=>ix h2.slice A rfl rfl fun _ B=>ld l B rfl fun _ C=>?_)
 obtain rfl:=C.int
 cases p
 exact o_p 3 rfl (o_nil (⟨l,hx rfl⟩))
 rintro s _ ⟨x,_,rfl⟩
 refine nx (cd p rfl (fun p=>?_) fun p=>?_)
 refine pg rfl (rt (pr (br (pr ?_))))
 cases p
 refine ⟨_,rfl,?_⟩
 rintro rfl
 have p:=j
 cases p
 exact br (pr (pr (Rt.mk lr x rb)))
 cases p
 exact sn (rg (o_p 5 rfl (o_nil (bn (nx (rg (o_p 2 rfl (o_nil (nx ⟨_,rfl,⟨x,hx rfl⟩⟩)))))))))
 refine ex (px ?_)
 cases p
 refine ⟨_,rfl,?_⟩
 rintro rfl
 exact bh (nx (⟨_,rfl,l,hx rfl⟩))
 rintro s _ ⟨i,rfl,j,_,rfl⟩
 cases p
 exact nx (pg rfl (rt (Rt.mk lr j rb)))
theorem c38 {v0 : Value} {d0 : machine} (I : Inv w G S) {r : Int} (h0 : RepV G v0 (some d0)) (p : t_machine_states d0 = some r) :
 Calls Tryz.prog 38 #[v0] w (RV (Rt G S r)) := by
 obtain ⟨_,rfl,a⟩:=RepV.ptr h0
 refine nt (n:=8) 2 [_] (h:=rfl) (res1 rfl) fun _=>pg rfl (sg (o_p 3 rfl (ld I (show PtrTo _ _ d0.accept from (PtrTo.fld a 1 rfl rfl)) rfl fun _ b=>?_)))
 obtain ⟨_,_,rfl,_⟩:=b.slice
 cases p
 exact o_p 2 rfl (en (rt (Rt.mk lr I ri)))
theorem c45 {v0 : Value} {d0 : List Int} (I : Inv w G S) {r : List Int} (h0 : RepV G v0 d0) (p : r1_CopyInts d0 = some r) :
 Calls Tryz.prog 45 #[v0] w (RV (Rt G S r)) := by
 refine nt (n:=6) 2 [_] (h:=rfl) (res1 rfl) fun _=>pg rfl (sg (o_bs (l:=([] : List Int)) (vs:=[]) I trivial rfl rfl rfl trivial rfl elk3 rfl rfl rfl fun _ _ _ _ a b=>nf (o_p 1 rfl (obk p fun _ c p=>?_))))
 refine o_app b 0 rfl a (Lies.ofSlice h0.slice) c rfl rfl rfl rfl rfl rfl elk3 rfl rfl rfl rfl fun _ _ _ d f=>nf ?_
 refine o_p 1 rfl (en (rt ?_))
 obtain ⟨_,g,h,i⟩:=Inv.frz f 0 rfl d
 cases p
 exact Rt.mk g h i
theorem c63 {v0 : Value} {d0 : Rule} (I : Inv w G S) {r : Bool} (h0 : RepV G v0 d0) (p : l2_bigRule d0 = some r) :
 Calls Tryz.prog 63 #[v0] w (RV (Rt G S r)) := by
 have _:=h0
 obtain ⟨a,b,c,d,f,g,h,i,rfl,j,k,l,m,n,o,t,u⟩:=Rule.unp h0
 refine nt (n:=55) 2 [_] (h:=rfl) (res1 rfl) fun _=>sg ?_
 refine o_box I rfl rfl rfl (cs:=[.string d0.name,it d0.kind,it d0.frm,it d0.to,it d0.partnerFrom,it d0.partnerTo,a,b,c,d,it d0.read,it d0.write,f,it d0.at_,g,h,i,it d0.direction]) rfl fun v _ x=>nf ?_
 refine o_p 1 rfl (en (sg (o_p 1 rfl (lt x 0 rfl (o_p 3 rfl (obk p fun y z p=>?_))))))
 refine oq (fun s w=>Inv w G ([(v,blk [.string d0.name,it d0.kind,it d0.frm,it d0.to,it d0.partnerFrom,it d0.partnerTo,a,b,c,d,it d0.read,it d0.write,f,it d0.at_,g,h,i,it d0.direction] 93)]::S)∧Hx s [(2,.bool y)]) ?_ ?_
 replace p:=z
 refine sp 7 p rfl (fun p=>?_) fun p=>?_
 cases p
 exact o_p 48 rfl (o_nil (⟨x,hx rfl⟩))
 refine o_p 1 rfl (lt x 0 rfl ?_)
 obtain ⟨_,_,rfl,_⟩:=j.slice
 refine o_p 4 rfl (sp 13 p rfl (fun p=>?_) fun p=>?_)
 cases p
 exact o_p 42 rfl (o_nil (⟨x,hx rfl⟩))
 refine o_p 1 rfl (lt x 0 rfl ?_)
 obtain ⟨_,_,rfl,_⟩:=k.slice
 refine o_p 4 rfl (sp 19 p rfl (fun p=>?_) fun p=>?_)
 cases p
 exact o_p 36 rfl (o_nil (⟨x,hx rfl⟩))
 refine o_p 1 rfl (lt x 0 rfl ?_)
 obtain ⟨_,_,rfl,_⟩:=l.slice
 refine o_p 4 rfl (sp 25 p rfl (fun p=>?_) fun p=>?_)
 cases p
 exact o_p 30 rfl (o_nil (⟨x,hx rfl⟩))
 refine o_p 1 rfl (lt x 0 rfl ?_)
 obtain ⟨_,_,rfl,_⟩:=m.slice
 refine o_p 4 rfl (sp 31 p rfl (fun p=>?_) fun p=>?_)
 cases p
 exact o_p 24 rfl (o_nil (⟨x,hx rfl⟩))
 refine o_p 1 rfl (lt x 0 rfl ?_)
 obtain ⟨_,_,rfl,_⟩:=n.slice
 refine o_p 4 rfl (sp 37 p rfl (fun p=>?_) fun p=>?_)
 cases p
 exact o_p 18 rfl (o_nil (⟨x,hx rfl⟩))
 refine o_p 1 rfl (lt x 0 rfl ?_)
 obtain ⟨_,_,rfl,_⟩:=o.slice
 refine o_p 4 rfl (sp 43 p rfl (fun p=>?_) fun p=>?_)
 cases p
 exact o_p 12 rfl (o_nil (⟨x,hx rfl⟩))
 refine o_p 1 rfl (lt x 0 rfl ?_)
 obtain ⟨_,_,rfl,_⟩:=t.slice
 refine o_p 4 rfl (sp 49 p rfl (fun p=>?_) fun p=>?_)
 cases p
 exact o_p 6 rfl (o_nil (⟨x,hx rfl⟩))
 refine o_p 1 rfl (lt x 0 rfl ?_)
 obtain ⟨_,_,rfl,_⟩:=u.slice
 cases p
 exact o_p 4 rfl (o_nil (⟨x,hx rfl⟩))
 rintro s _ ⟨A,_,rfl⟩
 cases p
 exact nx (rt (Rt.mk lr (A.del 0) rb))
theorem c64 {v0 : Value} {d0 : List ByteArray} (I : Inv w G S) {r : Bool} (h0 : RepV G v0 d0) (p : l2_bigNames d0 = some r) :
 Calls Tryz.prog 64 #[v0] w (RV (Rt G S r)) := by
 refine nt (n:=16) 2 [_] (h:=rfl) (res1 rfl) fun _=>pg rfl (sq (pg rfl (obk p fun a b p=>cq (fun s w=>∃ c : Unit,a = .inl c∧Inv w G S∧Hx s []) ?_ ?_)))
 have d:=p
 refine bk (fun (f : Int) s w=>Inv w G S∧Hx s [(0,v0),(3,it f)]) b ⟨I,hx rfl⟩ ?_
 clear b
 rintro f _ s _ p ⟨g,_,rfl⟩
 refine sq (sg (o_p 2 rfl ?_))
 obtain ⟨_,_,rfl,_⟩:=h0.slice
 refine o_p 2 rfl (en (cd p rfl (fun p=>?_) fun p=>?_))
 refine sn (sq (wpC_block (sg (o_p 2 rfl (obk p fun _ h p=>ix h0.slice h rfl rfl fun _ i=>ld g i rfl fun _ j=>?_)))))
 obtain rfl:=j.str
 refine o_p 2 rfl (en (cd p rfl (fun p=>?_) fun p=>?_))
 refine pg rfl (rt (br (pr ?_)))
 cases p
 refine ⟨_,rfl,?_⟩
 rintro rfl
 have p:=d
 cases p
 exact br (pr (pr (Rt.mk lr g rb)))
 refine wpC_skip ?_
 cases p
 exact bn (nx (rg (o_p 3 rfl (o_nil (nx ⟨_,rfl,⟨g,hx rfl⟩⟩)))))
 refine ex (px ?_)
 cases p
 refine ⟨_,rfl,?_⟩
 rintro rfl
 exact bh (nx (⟨_,rfl,g,hx rfl⟩))
 rintro s _ ⟨c,rfl,d,_,rfl⟩
 cases p
 exact nx (pg rfl (rt (Rt.mk lr d rb)))
theorem c72 {v0 : Value} {d0 : part} (I : Inv w G S) {r : Bool} (h0 : RepV G v0 d0) (p : t_initialTrees_3 d0 = some r) :
 Calls Tryz.prog 72 #[v0] w (RV (Rt G S r)) := by
 have _:=h0
 obtain rfl:=part.unp h0
 refine nt (n:=5) 2 [_] (h:=rfl) (res1 rfl) fun _=>sg (o_box I rfl rfl rfl (cs:=[.bool d0.inner,.bool d0.whole]) rfl fun _ _ a=>nf (o_p 1 rfl (en (sg (o_p 1 rfl (lt a 0 rfl ?_))))))
 cases p
 exact o_p 1 rfl (en (rt (Rt.mk lr (a.del 0) rb)))
theorem c76 {v0 v1 : Value} {d0 : Protocol} {d1 : Property} (I : Inv w G S) {r : List Int} (h0 : RepV G v0 d0) (h1 : RepV G v1 d1) (p : r2_StartStates d0 d1 = some r) :
 Calls Tryz.prog 76 #[v0, v1] w (RV (Rt G S r)) := by
 have _:=h0
 obtain ⟨a,b,c,d,f,g,h,rfl,_,_,_,_,i,_,_⟩:=Protocol.unp h0
 have _:=h1
 obtain ⟨j,k,l,m,rfl,n,_,_,_⟩:=Property.unp h1
 refine nt (n:=15) 4 [_,_] (h:=rfl) (res1 rfl) fun _=>sg ?_
 refine o_box I rfl rfl rfl (cs:=[.string d0.name,it d0.topology,a,b,c,it d0.fault,d,f,g,h]) rfl fun _ _ o=>nf ?_
 refine o_box o rfl rfl rfl (cs:=[.string d1.name,it d1.kind,j,k,l,m]) rfl fun _ _ t=>nf ?_
 refine o_p 1 rfl (en (sq (sg (o_p 1 rfl (lt t 0 rfl ?_)))))
 obtain ⟨_,_,rfl,_⟩:=n.slice
 refine o_p 2 rfl (en (cd p rfl (fun p=>?_) fun p=>?_))
 refine sg (o_p 1 rfl (lt t 0 rfl (obk p fun _ u p=>?_)))
 refine ca okf45 rfl (rv (c45 t n u) fun _ _ _ v x y=>?_)
 refine nf ?_
 cases p
 exact o_p 1 rfl (en (rt (pr (Rt.mk v ((x.del 1).del 0) y))))
 refine sn (sg (o_p 1 rfl (lt t 1 rfl (obk p fun _ u p=>?_))))
 refine ca okf45 rfl (rv (c45 t i u) fun _ _ _ v x y=>?_)
 refine nf ?_
 cases p
 exact o_p 1 rfl (en (rt (Rt.mk v ((x.del 1).del 0) y)))
theorem c77 {v0 v1 : Value} {d0 : List Int} {d1 : List Int} (I : Inv w G S) {r : Int} (h0 : RepV G v0 d0) (h1 : RepV G v1 d1) (p : r1_CompareInts d0 d1 = some r) :
 Calls Tryz.prog 77 #[v0, v1] w (RV (Rt G S r)) := by
 refine nt (n:=46) 4 [_,_] (h:=rfl) (res1 rfl) fun _=>pg rfl (sq (pg rfl (obk p fun a b p=>cq (fun s w=>∃ c : Unit,a = .inl c∧Inv w G S∧Hx s [(0,v0),(1,v1)]) ?_ ?_)))
 have d:=p
 refine bk (fun (f : Int) s w=>Inv w G S∧Hx s [(0,v0),(1,v1),(5,it f)]) b ⟨I,hx rfl⟩ ?_
 clear b
 rintro f _ s _ p ⟨g,_,rfl⟩
 refine sq (sg (o_p 2 rfl ?_))
 obtain ⟨h,i,rfl,_⟩:=h0.slice
 refine o_p 3 rfl (obk p fun j k p=>oq (fun s w=>Inv w G S∧Hx s [(0,(.slice h d0.length i)),(1,v1),(5,it f),(15,.bool j)]) ?_ ?_)
 replace p:=k
 refine sp 10 p rfl (fun p=>?_) fun p=>?_
 refine o_p 2 rfl ?_
 obtain ⟨_,_,rfl,_⟩:=h1.slice
 cases p
 exact o_p 3 rfl (o_nil (⟨g,hx rfl⟩))
 cases p
 exact o_p 5 rfl (o_nil (⟨g,hx rfl⟩))
 rintro s _ ⟨l,_,rfl⟩
 refine nx (cd p rfl (fun p=>?_) fun p=>?_)
 refine sn (sq (wpC_block (sq (sq (wpC_drawI hmTryz l (Cl G S) [(0,.any),(1,.any),(2,.any),(3,.here),(4,.any),(5,.any),(6,.any),(7,.here),(8,.any)] (by kernel_rfl) fun _ m=>o_p 2 rfl (obk p fun _ n p=>ix h0.slice n rfl rfl fun _ o=>ld m o rfl fun _ t=>?_))))))
 obtain rfl:=t.int
 refine o_p 2 rfl (obk p fun _ u p=>ix h1.slice u rfl rfl fun _ v=>ld m v rfl fun _ x=>?_)
 obtain rfl:=x.int
 refine o_p 1 rfl (en (cd p rfl (fun p=>?_) fun p=>?_))
 refine pg rfl (rt (pr (br (pr ?_))))
 cases p
 refine ⟨_,rfl,?_⟩
 rintro rfl
 have p:=d
 cases p
 exact br (pr (pr (Rt.mk lr m ri)))
 refine sn (sq (wpC_drawI hmTryz m (Cl G S) [(0,.any),(1,.any),(2,.any),(3,.here),(4,.any),(5,.any),(6,.any),(7,.here),(8,.any)] (by kernel_rfl) fun _ y=>o_p 2 rfl (obk p fun _ z p=>ix h0.slice z rfl rfl fun _ A=>ld y A rfl fun _ B=>?_)))
 obtain rfl:=B.int
 refine o_p 2 rfl (obk p fun _ C p=>ix h1.slice C rfl rfl fun _ D=>ld y D rfl fun _ F=>?_)
 obtain rfl:=F.int
 refine o_p 1 rfl (en (cd p rfl (fun p=>?_) fun p=>?_))
 refine pg rfl (rt (br (pr ?_)))
 cases p
 refine ⟨_,rfl,?_⟩
 rintro rfl
 have p:=d
 cases p
 exact br (pr (pr (Rt.mk lr y ri)))
 refine wpC_skip ?_
 cases p
 exact bn (nx (rg (o_p 3 rfl (o_nil (nx ⟨_,rfl,⟨y,hx rfl⟩⟩)))))
 refine ex (px ?_)
 cases p
 refine ⟨_,rfl,?_⟩
 rintro rfl
 exact bh (nx (⟨_,rfl,l,hx rfl⟩))
 rintro s _ ⟨c,rfl,d,_,rfl⟩
 refine nx (sq (sg (o_p 1 rfl ?_)))
 obtain ⟨_,_,rfl,_⟩:=h0.slice
 refine o_p 2 rfl ?_
 obtain ⟨_,_,rfl,_⟩:=h1.slice
 refine o_p 2 rfl (en (cd p rfl (fun p=>?_) fun p=>?_))
 cases p
 exact pg rfl (rt (pr (Rt.mk lr d ri)))
 refine sn (sq (pg rfl (cd p rfl (fun p=>?_) fun p=>?_)))
 cases p
 exact pg rfl (rt (pr (Rt.mk lr d ri)))
 cases p
 exact sn (pg rfl (rt (Rt.mk lr d ri)))
theorem c90 {v0 v1 : Value} {d0 : List Int} {d1 : Int} (I : Inv w G S) {r : Bool} (h0 : RepV G v0 d0) (h1 : RepV G v1 d1) (p : r2_Has d0 d1 = some r) :
 Calls Tryz.prog 90 #[v0, v1] w (RV (Rt G S r)) := by
 obtain rfl:=h1.int
 refine nt (n:=18) 4 [_,_] (h:=rfl) (res1 rfl) fun _=>pg rfl (sq (pg rfl (obk p fun a b p=>cq (fun s w=>∃ c : Unit,a = .inl c∧Inv w G S∧Hx s []) ?_ ?_)))
 have d:=p
 refine bk (fun (f : Int) s w=>Inv w G S∧Hx s [(0,v0),(1,it d1),(5,it f)]) b ⟨I,hx rfl⟩ ?_
 clear b
 rintro f _ s _ p ⟨g,_,rfl⟩
 refine sq (sg (o_p 2 rfl ?_))
 obtain ⟨_,_,rfl,_⟩:=h0.slice
 refine o_p 2 rfl (en (cd p rfl (fun p=>?_) fun p=>?_))
 refine sn (sq (wpC_block (sg (o_p 2 rfl (obk p fun _ h p=>ix h0.slice h rfl rfl fun _ i=>ld g i rfl fun _ j=>?_)))))
 obtain rfl:=j.int
 refine o_p 2 rfl (en (cd p rfl (fun p=>?_) fun p=>?_))
 refine pg rfl (rt (br (pr ?_)))
 cases p
 refine ⟨_,rfl,?_⟩
 rintro rfl
 have p:=d
 cases p
 exact br (pr (pr (Rt.mk lr g rb)))
 refine wpC_skip ?_
 cases p
 exact bn (nx (rg (o_p 3 rfl (o_nil (nx ⟨_,rfl,⟨g,hx rfl⟩⟩)))))
 refine ex (px ?_)
 cases p
 refine ⟨_,rfl,?_⟩
 rintro rfl
 exact bh (nx (⟨_,rfl,g,hx rfl⟩))
 rintro s _ ⟨c,rfl,d,_,rfl⟩
 cases p
 exact nx (pg rfl (rt (Rt.mk lr d rb)))
theorem c118 {v0 v1 : Value} {d0 : List Int} {d1 : Int} (I : Inv w G S) {r : Int} (h0 : RepV G v0 d0) (h1 : RepV G v1 d1) (p : p_set d0 d1 = some r) :
 Calls Tryz.prog 118 #[v0, v1] w (RV (Rt G S r)) := by
 obtain rfl:=h1.int
 refine nt (n:=38) 4 [_,_] (h:=rfl) (res1 rfl) fun _=>pg rfl (sq (sg (o_p 1 rfl ?_)))
 obtain ⟨a,b,rfl,_⟩:=h0.slice
 refine o_p 2 rfl (en (obk p fun c d p=>cq (fun s w=>∃ f : Unit,c = .inl f∧Inv w G S∧Hx s [(0,(.slice a d0.length b))]) ?_ ?_))
 have g:=p
 refine bk (fun (h : Int) s w=>Inv w G S∧Hx s [(0,(.slice a d0.length b)),(1,it d1),(8,(.slice a d0.length b)),(9,it (d0.length : Int)),(10,it h)]) d ⟨I,hx rfl⟩ ?_
 clear d
 rintro h _ s _ p ⟨i,_,rfl⟩
 refine pg rfl (sq (cd p rfl (fun p=>?_) fun p=>?_))
 refine sn (sq (wpC_block (sg (obk p fun _ j p=>ix h0.slice j rfl rfl fun _ k=>ld i k rfl fun _ l=>?_))))
 obtain rfl:=l.int
 refine o_p 1 rfl (en (sg (o_p 3 rfl (obk p fun m n p=>oq (fun s w=>Inv w G S∧Hx s [(0,(.slice a d0.length b)),(1,it d1),(8,(.slice a d0.length b)),(9,it (d0.length : Int)),(10,it h),(20,.bool m)]) ?_ ?_))))
 replace p:=n
 refine sp 16 p rfl (fun p=>?_) fun p=>?_
 cases p
 exact o_p 4 rfl (o_nil (⟨i,hx rfl⟩))
 cases p
 exact o_p 4 rfl (o_nil (⟨i,hx rfl⟩))
 rintro s _ ⟨o,_,rfl⟩
 refine nx (cd p rfl (fun p=>?_) fun p=>?_)
 refine pg rfl (rt (br (pr ?_)))
 cases p
 refine ⟨_,rfl,?_⟩
 rintro rfl
 have p:=g
 cases p
 exact br (pr (pr (Rt.mk lr o ri)))
 refine wpC_skip ?_
 cases p
 exact bn (nx (rg (o_p 2 rfl (o_nil (nx ⟨_,rfl,⟨o,hx rfl⟩⟩)))))
 refine ex (px ?_)
 cases p
 refine ⟨_,rfl,?_⟩
 rintro rfl
 exact bh (nx (⟨_,rfl,i,hx rfl⟩))
 rintro s _ ⟨f,rfl,g,_,rfl⟩
 refine nx (sq (pg rfl (obk p fun h i p=>cq (fun s w=>∃ j : Unit,h = .inl j∧Inv w G S∧Hx s []) ?_ ?_)))
 have k:=p
 refine bk (fun (l : Int) s w=>Inv w G S∧Hx s [(0,(.slice a d0.length b)),(7,it l)]) i ⟨g,hx rfl⟩ ?_
 clear i
 rintro l _ s _ p ⟨m,_,rfl⟩
 refine sq (pg rfl (cd p rfl (fun p=>?_) fun p=>?_))
 refine sn (sq (wpC_block (sq (wpC_drawI hmTryz m (Cl G S) [(0,.any),(1,.any),(2,.any),(3,.here),(4,.any),(5,.any),(6,.any),(7,.any),(8,.here),(9,.any)] (by kernel_rfl) fun _ n=>o_p 2 rfl (obk p fun _ o p=>ix h0.slice o rfl rfl fun _ t=>ld n t rfl fun _ u=>?_)))))
 obtain rfl:=u.int
 refine o_p 3 rfl (obk p fun _ v p=>ix h0.slice v rfl rfl fun _ x=>ld n x rfl fun _ y=>?_)
 obtain rfl:=y.int
 refine o_p 1 rfl (en (cd p rfl (fun p=>?_) fun p=>?_))
 refine pg rfl (rt (br (pr ?_)))
 cases p
 refine ⟨_,rfl,?_⟩
 rintro rfl
 have p:=k
 cases p
 exact br (pr (pr (Rt.mk lr n ri)))
 refine wpC_skip ?_
 cases p
 exact bn (nx (rg (o_p 3 rfl (o_nil (nx ⟨_,rfl,⟨n,hx rfl⟩⟩)))))
 refine ex (px ?_)
 cases p
 refine ⟨_,rfl,?_⟩
 rintro rfl
 exact bh (nx (⟨_,rfl,m,hx rfl⟩))
 rintro s _ ⟨j,rfl,k,_,rfl⟩
 cases p
 exact nx (pg rfl (rt (Rt.mk lr k ri)))
theorem c119 {v0 : Value} {d0 : List Int} (I : Inv w G S) {r : Int} (h0 : RepV G v0 d0) (p : p_first d0 = some r) :
 Calls Tryz.prog 119 #[v0] w (RV (Rt G S r)) := by
 refine nt (n:=15) 2 [_] (h:=rfl) (res1 rfl) fun _=>pg rfl (sq (sg (o_p 1 rfl ?_)))
 obtain ⟨a,b,rfl,_⟩:=h0.slice
 refine o_p 2 rfl (en (obk p fun c d p=>cq (fun s w=>∃ f : Unit,c = .inl f∧Inv w G S∧Hx s []) ?_ ?_))
 have g:=p
 refine bk (fun (h : Int) s w=>Inv w G S∧Hx s [(5,(.slice a d0.length b)),(6,it (d0.length : Int)),(7,it h)]) d ⟨I,hx rfl⟩ ?_
 clear d
 rintro h _ s _ p ⟨i,_,rfl⟩
 refine pg rfl (sq (cd p rfl (fun p=>?_) fun p=>?_))
 refine sn (sq (wpC_block (sg (obk p fun _ j p=>ix h0.slice j rfl rfl fun _ k=>ld i k rfl fun _ l=>?_))))
 obtain rfl:=l.int
 refine o_p 1 rfl (en (pg rfl (cd p rfl (fun p=>?_) fun p=>?_)))
 refine pg rfl (rt (br (pr ?_)))
 cases p
 refine ⟨_,rfl,?_⟩
 rintro rfl
 have p:=g
 cases p
 exact br (pr (pr (Rt.mk lr i ri)))
 refine wpC_skip ?_
 cases p
 exact bn (nx (rg (o_p 2 rfl (o_nil (nx ⟨_,rfl,⟨i,hx rfl⟩⟩)))))
 refine ex (px ?_)
 cases p
 refine ⟨_,rfl,?_⟩
 rintro rfl
 exact bh (nx (⟨_,rfl,i,hx rfl⟩))
 rintro s _ ⟨f,rfl,g,_,rfl⟩
 cases p
 exact nx (pg rfl (rt (Rt.mk lr g ri)))
theorem c120 {v0 v1 : Value} {d0 : Bool} {d1 : Int} (I : Inv w G S) {r : Int} (h0 : RepV G v0 d0) (h1 : RepV G v1 d1) (p : p_when d0 d1 = some r) :
 Calls Tryz.prog 120 #[v0, v1] w (RV (Rt G S r)) := by
 obtain rfl:=h0.bool
 obtain rfl:=h1.int
 refine nt (n:=7) 4 [_,_] (h:=rfl) (res1 rfl) fun _=>pg rfl (sq (pg rfl (cd p rfl (fun p=>?_) fun p=>?_)))
 cases p
 exact pg rfl (rt (pr (Rt.mk lr I ri)))
 cases p
 exact sn (pg rfl (rt (Rt.mk lr I ri)))
theorem c121 {v0 v1 : Value} {d0 : List Count} {d1 : Int} (I : Inv w G S) {r : Int} (h0 : RepV G v0 d0) (h1 : RepV G v1 d1) (p : p_counts d0 d1 = some r) :
 Calls Tryz.prog 121 #[v0, v1] w (RV (Rt G S r)) := by
 obtain rfl:=h1.int
 refine nt (n:=39) 4 [_,_] (h:=rfl) (res1 rfl) fun _=>pg rfl (sq (sg (o_p 1 rfl ?_)))
 obtain ⟨a,b,rfl,_⟩:=h0.slice
 refine o_p 2 rfl (en (obk p fun c d p=>?_))
 refine cq (fun s w=>∃ f : Unit,∃ g,c = .inl f∧Le G g∧Inv w g S∧Hx s []) ?_ ?_
 have h:=p
 refine bk (fun (i : Int) s w=>∃ j,Le G j∧Inv w j S∧Hx s [(1,it d1),(8,(.slice a d0.length b)),(9,it (d0.length : Int)),(10,it i)]) d ⟨G,lr,I,hx rfl⟩ ?_
 clear d
 rintro i _ s _ p ⟨j,k,l,_,rfl⟩
 refine pg rfl (sq (cd p rfl (fun p=>?_) fun p=>?_))
 refine sn (sq ?_)
 refine wpC_block ?_
 refine sg (obk p fun m n p=>?_)
 refine o_ix (h0.m k).slice n rfl rfl rfl rfl rfl rfl rfl rfl (fun _ o=>?_) rfl
 refine ld l o rfl fun _ t=>?_
 have _:=t
 obtain ⟨u,rfl,v⟩:=Count.unp t
 refine o_alloc l rfl rfl rfl zero114 fun x _ y=>nf ?_
 refine st y 0 rfl rfl (cs:=[u,it m.least]) rfl (allc (RepV.one1 v rfl) (allc rfl rfl)) rfl fun _ z=>nf ?_
 refine en (sq ?_)
 refine wpC_drawI hmTryz z (Cl j ([(x,blk [u,it m.least] 114)]::S)) [(0,.any),(1,.here),(2,.any),(4,.any),(5,.far),(6,.any),(7,.any),(3,.eff true),(8,.any),(9,.any),(10,.here),(11,.any),(12,.any),(13,.any),(14,.any),(15,.here),(16,.any),(17,.any),(18,.eff false),(19,.eff false),(20,.eff false),(21,.any)] (by kernel_rfl) fun _ A=>?_
 refine o_p 1 rfl (lt A 0 rfl (o_p 2 rfl ?_))
 refine o_ltF (Cl.le A lr) (.S 0 rfl) rfl rfl rfl rfl rfl rfl ?_
 obtain ⟨B,C,rfl,_⟩:=v.slice
 refine o_p 2 rfl (obk p fun D F p=>?_)
 refine ca okf118 rfl (rvi (c118 A v (RepV.ofInt _ _) F) fun _ H J K=>?_)
 refine ⟨fun _=>Cl.le K J,o_p 1 rfl (obk p fun M N p=>?_)⟩
 refine oq (fun s w=>∃ O,Le H O∧Inv w O ([(x,blk [(.slice B m.states.length C),it m.least] 114)]::S)∧Hx s [(1,it d1),(7,it M),(8,(.slice a d0.length b)),(9,it (d0.length : Int)),(10,it i)]) ?_ ?_
 replace p:=N
 refine sp 22 p rfl (fun p=>?_) fun p=>?_
 refine o_p 9 rfl (obk p fun P Q p=>?_)
 refine ca okf120 rfl (rvi (c120 K (RepV.ofBool _ _) (RepV.ofInt _ _) Q) fun _ _ R T=>?_)
 refine nf ?_
 refine o_bs (l:=[D,P]) (vs:=[it D,it P]) T ⟨ri,⟨ri,trivial⟩⟩ rfl rfl rfl ⟨rfl,rfl,⟨rfl,rfl,trivial⟩⟩ rfl elk37 rfl rfl rfl fun _ _ _ _ U V=>nf ?_
 obtain ⟨_,_,W,X,Y⟩:=Inv.lend V 0 rfl U
 refine obk p fun _ Z p=>?_
 refine ca okf119 rfl (rvi (c119 W X Z) fun _ _ a0 a1=>?_)
 obtain ⟨a2,a3,a4⟩:=Y _ _ _ a0 a1
 refine nf ?_
 cases p
 exact o_p 1 rfl (o_nil (⟨a2,(R.t a3),(a4.del 0),hx rfl⟩))
 refine o_p 1 rfl (lt K 0 rfl (o_p 3 rfl (sp 27 p rfl (fun p=>?_) fun p=>?_)))
 refine o_p 4 rfl (obk p fun P Q p=>?_)
 refine ca okf120 rfl (rvi (c120 K (RepV.ofBool _ _) (RepV.ofInt _ _) Q) fun _ _ R T=>?_)
 refine nf ?_
 refine o_bs (l:=[D,P]) (vs:=[it D,it P]) T ⟨ri,⟨ri,trivial⟩⟩ rfl rfl rfl ⟨rfl,rfl,⟨rfl,rfl,trivial⟩⟩ rfl elk37 rfl rfl rfl fun _ _ _ _ U V=>nf ?_
 obtain ⟨_,_,W,X,Y⟩:=Inv.lend V 0 rfl U
 refine obk p fun _ Z p=>?_
 refine ca okf119 rfl (rvi (c119 W X Z) fun _ _ a0 a1=>?_)
 obtain ⟨a2,a3,a4⟩:=Y _ _ _ a0 a1
 refine nf ?_
 cases p
 exact o_p 1 rfl (o_nil (⟨a2,(R.t a3),(a4.del 0),hx rfl⟩))
 refine o_p 1 rfl (lt K 0 rfl (o_p 2 rfl (obk p fun P Q p=>?_)))
 refine ca okf120 rfl (rvi (c120 K (RepV.ofBool _ _) (RepV.ofInt _ _) Q) fun _ _ R T=>?_)
 refine nf ?_
 refine o_bs (l:=[D,P]) (vs:=[it D,it P]) T ⟨ri,⟨ri,trivial⟩⟩ rfl rfl rfl ⟨rfl,rfl,⟨rfl,rfl,trivial⟩⟩ rfl elk37 rfl rfl rfl fun _ _ _ _ U V=>nf ?_
 obtain ⟨_,_,W,X,Y⟩:=Inv.lend V 0 rfl U
 refine obk p fun _ Z p=>?_
 refine ca okf119 rfl (rvi (c119 W X Z) fun _ _ a0 a1=>?_)
 obtain ⟨a2,a3,a4⟩:=Y _ _ _ a0 a1
 refine nf ?_
 cases p
 exact o_p 1 rfl (o_nil (⟨a2,(R.t a3),(a4.del 0),hx rfl⟩))
 rintro s _ ⟨O,P,Q,_,rfl⟩
 refine nx (pg rfl (cd p rfl (fun p=>?_) fun p=>?_))
 refine pg rfl (rt (br (pr ?_)))
 cases p
 refine ⟨_,rfl,?_⟩
 rintro rfl
 have p:=h
 cases p
 exact br (pr (pr (Rt.mk ((k.t J).t P) (Q.del 0) ri)))
 refine wpC_skip ?_
 cases p
 exact bn (nx (rg (o_p 2 rfl (o_nil (nx ⟨_,rfl,⟨O,((k.t J).t P),(Q.del 0),hx rfl⟩⟩)))))
 refine ex (px ?_)
 cases p
 refine ⟨_,rfl,?_⟩
 rintro rfl
 exact bh (nx (⟨_,j,rfl,k,l,hx rfl⟩))
 rintro s _ ⟨f,g,rfl,h,i,_,rfl⟩
 cases p
 exact nx (pg rfl (rt (Rt.mk h i ri)))
theorem c124 {v0 v1 : Value} {d0 : List Int} {d1 : Int} (I : Inv w G S) {r : Int} (h0 : RepV G v0 d0) (h1 : RepV G v1 d1) (p : sl_Indexint_int_ d0 d1 = some r) :
 Calls Tryz.prog 124 #[v0, v1] w (RV (Rt G S r)) := by
 obtain rfl:=h1.int
 refine nt (n:=19) 4 [_,_] (h:=rfl) (res1 rfl) fun _=>pg rfl (sq (sg (o_p 1 rfl ?_)))
 obtain ⟨a,b,rfl,_⟩:=h0.slice
 refine o_p 2 rfl (en (obk p fun c d p=>cq (fun s w=>∃ f : Unit,c = .inl f∧Inv w G S∧Hx s []) ?_ ?_))
 have g:=p
 refine bk (fun (h : Int) s w=>Inv w G S∧Hx s [(0,(.slice a d0.length b)),(1,it d1),(7,it (d0.length : Int)),(8,it h)]) d ⟨I,hx rfl⟩ ?_
 clear d
 rintro h _ s _ p ⟨i,_,rfl⟩
 refine pg rfl (sq (cd p rfl (fun p=>?_) fun p=>?_))
 refine sn (sq (wpC_block (pg rfl (sg (o_p 3 rfl (obk p fun _ j p=>ix h0.slice j rfl rfl fun _ k=>ld i k rfl fun _ l=>?_))))))
 obtain rfl:=l.int
 refine o_p 1 rfl (en (cd p rfl (fun p=>?_) fun p=>?_))
 refine pg rfl (rt (br (pr ?_)))
 cases p
 refine ⟨_,rfl,?_⟩
 rintro rfl
 have p:=g
 cases p
 exact br (pr (pr (Rt.mk lr i ri)))
 refine wpC_skip ?_
 cases p
 exact bn (nx (rg (o_p 2 rfl (o_nil (nx ⟨_,rfl,⟨i,hx rfl⟩⟩)))))
 refine ex (px ?_)
 cases p
 refine ⟨_,rfl,?_⟩
 rintro rfl
 exact bh (nx (⟨_,rfl,i,hx rfl⟩))
 rintro s _ ⟨f,rfl,g,_,rfl⟩
 cases p
 exact nx (pg rfl (rt (Rt.mk lr g ri)))
theorem c134 {v0 v1 v2 : Value} {d0 : Int} {d1 : Int} {d2 : Int} (I : Inv w G S) {r : Bool} (h0 : RepV G v0 d0) (h1 : RepV G v1 d1) (h2 : RepV G v2 d2) (p : r2_within d0 d1 d2 = some r) :
 Calls Tryz.prog 134 #[v0, v1, v2] w (RV (Rt G S r)) := by
 obtain rfl:=h0.int
 obtain rfl:=h1.int
 obtain rfl:=h2.int
 refine nt (n:=15) 6 [_,_,_] (h:=rfl) (res1 rfl) fun _=>pg rfl (sg (o_p 4 rfl (obk p fun a b p=>oq (fun s w=>Inv w G S∧Hx s [(6,.bool a)]) ?_ ?_)))
 replace p:=b
 refine sp 10 p rfl (fun p=>?_) fun p=>?_
 cases p
 exact o_p 5 rfl (o_nil (⟨I,hx rfl⟩))
 cases p
 exact o_p 5 rfl (o_nil (⟨I,hx rfl⟩))
 rintro s _ ⟨c,_,rfl⟩
 cases p
 exact nx (rt (Rt.mk lr c rb))
theorem c136 {v0 v1 : Value} {d0 : List Int} {d1 : Int} (I : Inv w G S) {r : Bool} (h0 : RepV G v0 d0) (h1 : RepV G v1 d1) (p : r7_has d0 d1 = some r) :
 Calls Tryz.prog 136 #[v0, v1] w (RV (Rt G S r)) := by
 obtain rfl:=h1.int
 refine nt (n:=18) 4 [_,_] (h:=rfl) (res1 rfl) fun _=>pg rfl (sq (pg rfl (obk p fun a b p=>cq (fun s w=>∃ c : Unit,a = .inl c∧Inv w G S∧Hx s []) ?_ ?_)))
 have d:=p
 refine bk (fun (f : Int) s w=>Inv w G S∧Hx s [(0,v0),(1,it d1),(5,it f)]) b ⟨I,hx rfl⟩ ?_
 clear b
 rintro f _ s _ p ⟨g,_,rfl⟩
 refine sq (sg (o_p 2 rfl ?_))
 obtain ⟨_,_,rfl,_⟩:=h0.slice
 refine o_p 2 rfl (en (cd p rfl (fun p=>?_) fun p=>?_))
 refine sn (sq (wpC_block (sg (o_p 2 rfl (obk p fun _ h p=>ix h0.slice h rfl rfl fun _ i=>ld g i rfl fun _ j=>?_)))))
 obtain rfl:=j.int
 refine o_p 2 rfl (en (cd p rfl (fun p=>?_) fun p=>?_))
 refine pg rfl (rt (br (pr ?_)))
 cases p
 refine ⟨_,rfl,?_⟩
 rintro rfl
 have p:=d
 cases p
 exact br (pr (pr (Rt.mk lr g rb)))
 refine wpC_skip ?_
 cases p
 exact bn (nx (rg (o_p 3 rfl (o_nil (nx ⟨_,rfl,⟨g,hx rfl⟩⟩)))))
 refine ex (px ?_)
 cases p
 refine ⟨_,rfl,?_⟩
 rintro rfl
 exact bh (nx (⟨_,rfl,g,hx rfl⟩))
 rintro s _ ⟨c,rfl,d,_,rfl⟩
 cases p
 exact nx (pg rfl (rt (Rt.mk lr d rb)))
theorem c156 {v0 v1 : Value} {d0 : TreeAutomaton} {d1 : Int} (I : Inv w G S) {r : List Bool} (h0 : RepV G v0 d0) (h1 : RepV G v1 d1) (p : r7_leaf d0 d1 = some r) :
 Calls Tryz.prog 156 #[v0, v1] w (RV (Rt G S r)) := by
 have _:=h0
 obtain ⟨a,b,c,rfl,_,d,_⟩:=TreeAutomaton.unp h0
 obtain rfl:=h1.int
 refine nt (n:=34) 4 [_,_] (h:=rfl) (res1 rfl) fun _=>sg (o_box I rfl rfl rfl (cs:=[it d0.letters,it d0.states,a,b,c]) rfl fun f _ g=>nf (o_p 1 rfl (en (sg (o_p 1 rfl (lt g 0 rfl (obk p fun _ h p=>o_mks (z:=(false : Bool)) g h rfl rfl rfl elk4 zero4 (fun _=>by rfl) rfl rfl rfl rfl fun i j _ k l=>nf (o_p 1 rfl (en (sq (pg rfl (obk p fun m n p=>cq (fun s w=>∃ o t,Inv w G (t::[(f,blk [it d0.letters,it d0.states,a,b,c] 36)]::S)∧OwnL 4 G t o m∧Hx s [(5,o)]) ?_ ?_))))))))))))
 have _:=p
 refine bk (fun (u : List Bool × Int) s w=>∃ v x,Inv w G (x::[(f,blk [it d0.letters,it d0.states,a,b,c] 36)]::S)∧OwnL 4 G x v u.1∧Hx s [(1,it d1),(2,pt f),(5,v),(6,it u.2)]) n ⟨i,j,l,k,hx rfl⟩ ?_
 clear n
 rintro u _ s _ p ⟨v,x,y,z,_,rfl⟩
 refine sq (sg (o_p 2 rfl (lt y 1 rfl ?_)))
 obtain ⟨A,B,rfl,_⟩:=d.slice
 refine o_p 2 rfl (en (cd p rfl (fun p=>?_) fun p=>?_))
 refine sn (sq (wpC_block (sg (o_p 1 rfl (lt y 1 rfl (o_p 1 rfl (obk p fun C D p=>ix d.slice D rfl rfl fun _ F=>o_p 1 rfl (ld y (show PtrTo _ _ C.letter from (PtrTo.fld F 0 rfl rfl)) rfl fun _ H=>?_))))))))
 obtain rfl:=H.int
 refine o_p 2 rfl (en (obk p fun J K p=>cq (fun s w=>∃ M N,Inv w G (N::[(f,blk [it d0.letters,it d0.states,a,(.slice A d0.leaves.length B),c] 36)]::S)∧OwnL 4 G N M J∧Hx s [(1,it d1),(2,pt f),(5,M),(6,it u.2)]) ?_ ?_))
 replace p:=K
 refine cd p rfl (fun p=>?_) fun p=>?_
 refine rg (o_p 2 rfl (lt y 1 rfl (o_p 1 rfl (obk p fun O P p=>ix d.slice P rfl rfl fun _ Q=>o_p 1 rfl (ld y (show PtrTo _ _ O.to from (PtrTo.fld Q 1 rfl rfl)) rfl fun _ R=>?_)))))
 obtain rfl:=R.int
 refine obk p fun _ T p=>o_ixO z T rfl rfl rfl rfl rfl rfl rfl rfl (fun _ U=>o_stO y 0 rfl z U T rb rfl rfl rfl rfl rfl rfl rfl fun V _ W X=>nf ?_) rfl
 cases p
 exact o_nil (⟨v,V,X,W,hx rfl⟩)
 refine wpC_skip ?_
 cases p
 exact ⟨v,x,y,z,hx rfl⟩
 rintro s _ ⟨M,N,O,P,_,rfl⟩
 cases p
 exact bn (nx (rg (o_p 3 rfl (o_nil (nx ⟨_,rfl,⟨M,N,O,P,hx rfl⟩⟩)))))
 refine ex (px ?_)
 cases p
 refine ⟨_,rfl,?_⟩
 rintro rfl
 exact bh (nx (⟨v,x,y,z,hx rfl⟩))
 rintro s _ ⟨o,t,u,v,_,rfl⟩
 refine nx (pg rfl (rt ?_))
 obtain ⟨_,x,y,z⟩:=Inv.frz u 0 rfl v
 cases p
 exact Rt.mk x (y.del 0) z
theorem c157 {v0 v1 v2 v3 : Value} {d0 : TreeAutomaton} {d1 : Int} {d2 : List Bool} {d3 : List Bool} (I : Inv w G S) {r : List Bool} (h0 : RepV G v0 d0) (h1 : RepV G v1 d1) (h2 : RepV G v2 d2) (h3 : RepV G v3 d3) (p : r7_branch d0 d1 d2 d3 = some r) :
 Calls Tryz.prog 157 #[v0, v1, v2, v3] w (RV (Rt G S r)) := by
 have _:=h0
 obtain ⟨a,b,c,rfl,_,_,d⟩:=TreeAutomaton.unp h0
 obtain rfl:=h1.int
 refine nt (n:=50) 8 [_,_,_,_] (h:=rfl) (res1 rfl) fun _=>sg (o_box I rfl rfl rfl (cs:=[it d0.letters,it d0.states,a,b,c]) rfl fun f _ g=>nf (o_p 1 rfl (en (sg (o_p 1 rfl (lt g 0 rfl (obk p fun _ h p=>o_mks (z:=(false : Bool)) g h rfl rfl rfl elk4 zero4 (fun _=>by rfl) rfl rfl rfl rfl fun i j _ k l=>nf (o_p 1 rfl (en (sq (pg rfl (obk p fun m n p=>cq (fun s w=>∃ o t,Inv w G (t::[(f,blk [it d0.letters,it d0.states,a,b,c] 36)]::S)∧OwnL 4 G t o m∧Hx s [(9,o)]) ?_ ?_))))))))))))
 have _:=p
 refine bk (fun (u : List Bool × Int) s w=>∃ v x,Inv w G (x::[(f,blk [it d0.letters,it d0.states,a,b,c] 36)]::S)∧OwnL 4 G x v u.1∧Hx s [(1,it d1),(2,v2),(3,v3),(4,pt f),(9,v),(10,it u.2)]) n ⟨i,j,l,k,hx rfl⟩ ?_
 clear n
 rintro u _ s _ p ⟨v,x,y,z,_,rfl⟩
 refine sq (sg (o_p 2 rfl (lt y 1 rfl ?_)))
 obtain ⟨A,B,rfl,_⟩:=d.slice
 refine o_p 2 rfl (en (cd p rfl (fun p=>?_) fun p=>?_))
 refine sn (sq (wpC_block (sg (o_p 1 rfl (lt y 1 rfl (o_p 1 rfl (obk p fun C D p=>ix d.slice D rfl rfl fun _ F=>ld y F rfl fun _ H=>?_)))))))
 have _:=H
 obtain rfl:=Branch.unp H
 refine o_alloc y rfl rfl rfl zero74 fun J _ K=>nf (st K 0 rfl rfl (cs:=[it C.letter,it C.first,it C.second,it C.to]) rfl rfl rfl fun _ M=>nf (en (sg (o_p 1 rfl (lt M 0 rfl (o_p 3 rfl (obk p fun N O p=>oq (fun s w=>Inv w G ([(J,blk [it C.letter,it C.first,it C.second,it C.to] 74)]::x::[(f,blk [it d0.letters,it d0.states,a,b,(.slice A d0.branches.length B)] 36)]::S)∧Hx s [(1,it d1),(2,v2),(3,v3),(4,pt f),(9,v),(10,it u.2),(11,pt J),(44,.bool N)]) ?_ ?_)))))))
 replace p:=O
 refine sp 31 p rfl (fun p=>?_) fun p=>?_
 refine o_p 2 rfl (lt M 0 rfl (obk p fun _ P p=>ix h2.slice P rfl rfl fun _ Q=>ld M Q rfl fun _ R=>?_))
 obtain rfl:=R.bool
 refine o_p 2 rfl (sp 38 p rfl (fun p=>?_) fun p=>?_)
 refine o_p 2 rfl (lt M 0 rfl (obk p fun _ T p=>ix h3.slice T rfl rfl fun _ U=>ld M U rfl fun _ V=>?_))
 obtain rfl:=V.bool
 cases p
 exact o_p 1 rfl (o_nil (⟨M,hx rfl⟩))
 cases p
 exact o_p 6 rfl (o_nil (⟨M,hx rfl⟩))
 cases p
 exact o_p 13 rfl (o_nil (⟨M,hx rfl⟩))
 rintro s _ ⟨P,_,rfl⟩
 refine nx (obk p fun Q R p=>cq (fun s w=>∃ T U,Inv w G ([(J,blk [it C.letter,it C.first,it C.second,it C.to] 74)]::U::[(f,blk [it d0.letters,it d0.states,a,b,(.slice A d0.branches.length B)] 36)]::S)∧OwnL 4 G U T Q∧Hx s [(1,it d1),(2,v2),(3,v3),(4,pt f),(9,T),(10,it u.2)]) ?_ ?_)
 replace p:=R
 refine cd p rfl (fun p=>?_) fun p=>?_
 refine rg (o_p 2 rfl (lt P 0 rfl (obk p fun _ V p=>o_ixO z V rfl rfl rfl rfl rfl rfl rfl rfl (fun _ W=>o_stO P 1 rfl z W V rb rfl rfl rfl rfl rfl rfl rfl fun X _ Y Z=>nf ?_) rfl)))
 cases p
 exact o_nil (⟨v,X,Z,Y,hx rfl⟩)
 refine wpC_skip ?_
 cases p
 exact ⟨v,x,P,z,hx rfl⟩
 rintro s _ ⟨T,U,V,W,_,rfl⟩
 cases p
 exact bn (nx (rg (o_p 3 rfl (o_nil (nx ⟨_,rfl,⟨T,U,(V.del 0),W,hx rfl⟩⟩)))))
 refine ex (px ?_)
 cases p
 refine ⟨_,rfl,?_⟩
 rintro rfl
 exact bh (nx (⟨v,x,y,z,hx rfl⟩))
 rintro s _ ⟨o,t,u,v,_,rfl⟩
 refine nx (pg rfl (rt ?_))
 obtain ⟨_,x,y,z⟩:=Inv.frz u 0 rfl v
 cases p
 exact Rt.mk x (y.del 0) z
theorem c158 {v0 v1 : Value} {d0 : List Bool} {d1 : List Int} (I : Inv w G S) {r : Bool} (h0 : RepV G v0 d0) (h1 : RepV G v1 d1) (p : r7_meets d0 d1 = some r) :
 Calls Tryz.prog 158 #[v0, v1] w (RV (Rt G S r)) := by
 refine nt (n:=19) 4 [_,_] (h:=rfl) (res1 rfl) fun _=>pg rfl (sq (pg rfl (obk p fun a b p=>cq (fun s w=>∃ c : Unit,a = .inl c∧Inv w G S∧Hx s []) ?_ ?_)))
 have d:=p
 refine bk (fun (f : Int) s w=>Inv w G S∧Hx s [(0,v0),(1,v1),(5,it f)]) b ⟨I,hx rfl⟩ ?_
 clear b
 rintro f _ s _ p ⟨g,_,rfl⟩
 refine sq (sg (o_p 2 rfl ?_))
 obtain ⟨_,_,rfl,_⟩:=h1.slice
 refine o_p 2 rfl (en (cd p rfl (fun p=>?_) fun p=>?_))
 refine sn (sq (wpC_block (sg (o_p 3 rfl (obk p fun _ h p=>ix h1.slice h rfl rfl fun _ i=>ld g i rfl fun _ j=>?_)))))
 obtain rfl:=j.int
 refine obk p fun _ k p=>ix h0.slice k rfl rfl fun _ l=>ld g l rfl fun _ m=>?_
 obtain rfl:=m.bool
 refine en (cd p rfl (fun p=>?_) fun p=>?_)
 refine pg rfl (rt (br (pr ?_)))
 cases p
 refine ⟨_,rfl,?_⟩
 rintro rfl
 have p:=d
 cases p
 exact br (pr (pr (Rt.mk lr g rb)))
 refine wpC_skip ?_
 cases p
 exact bn (nx (rg (o_p 3 rfl (o_nil (nx ⟨_,rfl,⟨g,hx rfl⟩⟩)))))
 refine ex (px ?_)
 cases p
 refine ⟨_,rfl,?_⟩
 rintro rfl
 exact bh (nx (⟨_,rfl,g,hx rfl⟩))
 rintro s _ ⟨c,rfl,d,_,rfl⟩
 cases p
 exact nx (pg rfl (rt (Rt.mk lr d rb)))
theorem c159 {v0 v1 v2 v3 : Value} {d0 : TableR} {d1 : List Int} {d2 : Int} {d3 : Int} (I : Inv w G S) {r : Bool} (h0 : RepV G v0 d0) (h1 : RepV G v1 d1) (h2 : RepV G v2 d2) (h3 : RepV G v3 d3) (p : r7_alike d0 d1 d2 d3 = some r) :
 Calls Tryz.prog 159 #[v0, v1, v2, v3] w (RV (Rt G S r)) := by
 have _:=h0
 obtain ⟨a,b,c,rfl,_,d,_⟩:=TableR.unp h0
 obtain rfl:=h2.int
 obtain rfl:=h3.int
 refine nt (n:=92) 8 [_,_,_,_] (h:=rfl) (res1 rfl) fun _=>sg (o_box I rfl rfl rfl (cs:=[it d0.letters,a,b,c]) rfl fun f _ g=>nf (o_p 1 rfl (en (sq (sq (wpC_drawI hmTryz g (Cl G S) [(0,.any),(1,.any),(2,.any),(3,.here),(4,.any),(5,.any),(6,.any),(7,.here),(8,.any)] (by kernel_rfl) fun _ h=>o_p 2 rfl (obk p fun _ i p=>ix h1.slice i rfl rfl fun _ j=>ld h j rfl fun _ k=>?_)))))))
 obtain rfl:=k.int
 refine o_p 2 rfl (obk p fun _ l p=>ix h1.slice l rfl rfl fun _ m=>ld h m rfl fun _ n=>?_)
 obtain rfl:=n.int
 refine o_p 1 rfl (en (cd p rfl (fun p=>?_) fun p=>?_))
 cases p
 exact pg rfl (rt (pr (Rt.mk lr (h.del 0) rb)))
 refine sn (sq (pg rfl (obk p fun o t p=>cq (fun s w=>∃ u : Unit,o = .inl u∧Inv w G ([(f,blk [it d0.letters,a,b,c] 98)]::S)∧Hx s []) ?_ ?_)))
 have v:=p
 refine bk (fun (x : Int) s w=>Inv w G ([(f,blk [it d0.letters,a,b,c] 98)]::S)∧Hx s [(1,v1),(2,it d2),(3,it d3),(4,pt f),(9,it x)]) t ⟨h,hx rfl⟩ ?_
 clear t
 rintro x _ s _ p ⟨y,_,rfl⟩
 refine sq (sg (o_p 2 rfl (lt y 0 rfl (o_p 1 rfl (en (cd p rfl (fun p=>?_) fun p=>?_))))))
 refine sn (sq (wpC_block (pg rfl (obk p fun z A p=>cq (fun s w=>∃ B : Unit,z = .inl B∧Inv w G ([(f,blk [it d0.letters,a,b,c] 98)]::S)∧Hx s [(1,v1),(2,it d2),(3,it d3),(4,pt f),(9,it x)]) ?_ ?_))))
 have C:=p
 refine bk (fun (D : Int) s w=>Inv w G ([(f,blk [it d0.letters,a,b,c] 98)]::S)∧Hx s [(1,v1),(2,it d2),(3,it d3),(4,pt f),(9,it x),(10,it D)]) A ⟨y,hx rfl⟩ ?_
 clear A
 rintro D _ s _ p ⟨F,_,rfl⟩
 refine sq (sg (o_p 2 rfl ?_))
 obtain ⟨H,J,rfl,_⟩:=h1.slice
 refine o_p 2 rfl (en (cd p rfl (fun p=>?_) fun p=>?_))
 refine sn (sq (wpC_block (sq (wpC_drawI hmTryz F (Cl G S) [(0,.any),(1,.any),(2,.here),(3,.any),(4,.any),(5,.here),(6,.any),(7,.any),(8,.here),(9,.any),(10,.any),(11,.here),(12,.any),(13,.here),(14,.any),(15,.any),(16,.here),(17,.any),(18,.any),(19,.here),(20,.any),(21,.any),(22,.here),(23,.any),(24,.any),(25,.here),(26,.any),(27,.here),(28,.any),(29,.any),(30,.any),(31,.any),(32,.here),(33,.any),(34,.any),(35,.here),(36,.any),(37,.any),(38,.here),(39,.any),(40,.any),(41,.here),(42,.any),(43,.here),(44,.any),(45,.any),(46,.here),(47,.any),(48,.any),(49,.here),(50,.any),(51,.any),(52,.here),(53,.any),(54,.any),(55,.here),(56,.any),(57,.here),(58,.any),(59,.any)] (by kernel_rfl) fun _ K=>o_p 2 rfl (lt K 0 rfl (o_p 1 rfl (obk p fun _ M p=>ix d.slice M rfl rfl fun _ N=>ld K N rfl fun _ O=>o_p 1 rfl (obk p fun _ P p=>ix O.slice P rfl rfl fun _ Q=>ld K Q rfl fun _ R=>o_p 1 rfl (obk p fun _ T p=>ix R.slice T rfl rfl fun _ U=>ld K U rfl fun _ V=>?_)))))))))
 obtain rfl:=V.int
 refine obk p fun _ W p=>ix h1.slice W rfl rfl fun _ X=>ld K X rfl fun _ Y=>?_
 obtain rfl:=Y.int
 refine o_p 2 rfl (lt K 0 rfl (o_p 1 rfl (obk p fun _ Z p=>ix d.slice Z rfl rfl fun _ a0=>ld K a0 rfl fun _ a1=>o_p 1 rfl (obk p fun _ a2 p=>ix a1.slice a2 rfl rfl fun _ a3=>ld K a3 rfl fun _ a4=>o_p 1 rfl (obk p fun _ a5 p=>ix a4.slice a5 rfl rfl fun _ a6=>ld K a6 rfl fun _ a7=>?_)))))
 obtain rfl:=a7.int
 refine obk p fun _ a8 p=>ix h1.slice a8 rfl rfl fun _ a9=>ld K a9 rfl fun _ b0=>?_
 obtain rfl:=b0.int
 refine o_p 2 rfl (obk p fun b1 b2 p=>oq (fun s w=>Inv w G ([(f,blk [it d0.letters,a,b,c] 98)]::S)∧Hx s [(1,(.slice H d1.length J)),(2,it d2),(3,it d3),(4,pt f),(9,it x),(10,it D),(91,.bool b1)]) ?_ ?_)
 replace p:=b2
 refine sp 61 p rfl (fun p=>?_) fun p=>?_
 cases p
 exact o_p 30 rfl (o_nil (⟨K,hx rfl⟩))
 refine o_p 2 rfl (lt K 0 rfl (o_p 1 rfl (obk p fun _ b3 p=>ix d.slice b3 rfl rfl fun _ b4=>ld K b4 rfl fun _ b5=>o_p 1 rfl (obk p fun _ b6 p=>ix b5.slice b6 rfl rfl fun _ b7=>ld K b7 rfl fun _ b8=>o_p 1 rfl (obk p fun _ b9 p=>ix b8.slice b9 rfl rfl fun _ e0=>ld K e0 rfl fun _ e1=>?_)))))
 obtain rfl:=e1.int
 refine obk p fun _ e2 p=>ix h1.slice e2 rfl rfl fun _ e3=>ld K e3 rfl fun _ e4=>?_
 obtain rfl:=e4.int
 refine o_p 2 rfl (lt K 0 rfl (o_p 1 rfl (obk p fun _ e5 p=>ix d.slice e5 rfl rfl fun _ e6=>ld K e6 rfl fun _ e7=>o_p 1 rfl (obk p fun _ e8 p=>ix e7.slice e8 rfl rfl fun _ e9=>ld K e9 rfl fun _ f0=>o_p 1 rfl (obk p fun _ f1 p=>ix f0.slice f1 rfl rfl fun _ f2=>ld K f2 rfl fun _ f3=>?_)))))
 obtain rfl:=f3.int
 refine obk p fun _ f4 p=>ix h1.slice f4 rfl rfl fun _ f5=>ld K f5 rfl fun _ f6=>?_
 obtain rfl:=f6.int
 cases p
 exact o_p 2 rfl (o_nil (⟨K,hx rfl⟩))
 rintro s _ ⟨b3,_,rfl⟩
 refine nx (cd p rfl (fun p=>?_) fun p=>?_)
 refine pg rfl (rt (br (pr ?_)))
 cases p
 refine ⟨_,rfl,?_⟩
 rintro rfl
 have p:=C
 refine br (pr (br (pr ?_)))
 cases p
 refine ⟨_,rfl,?_⟩
 rintro rfl
 have p:=v
 cases p
 exact br (pr (pr (Rt.mk lr (b3.del 0) rb)))
 refine wpC_skip ?_
 cases p
 exact bn (nx (rg (o_p 3 rfl (o_nil (nx ⟨_,rfl,⟨b3,hx rfl⟩⟩)))))
 refine ex (px ?_)
 cases p
 refine ⟨_,rfl,?_⟩
 rintro rfl
 exact bh (nx (⟨_,rfl,F,hx rfl⟩))
 rintro s _ ⟨B,rfl,C,_,rfl⟩
 cases p
 exact bn (nx (rg (o_p 3 rfl (o_nil (nx ⟨_,rfl,⟨C,hx rfl⟩⟩)))))
 refine ex (px ?_)
 cases p
 refine ⟨_,rfl,?_⟩
 rintro rfl
 exact bh (nx (⟨_,rfl,y,hx rfl⟩))
 rintro s _ ⟨u,rfl,v,_,rfl⟩
 cases p
 exact nx (pg rfl (rt (Rt.mk lr (v.del 0) rb)))
theorem c160 {v0 : Value} {d0 : List Int} (I : Inv w G S) {r : Int} (h0 : RepV G v0 d0) (p : r7_kinds d0 = some r) :
 Calls Tryz.prog 160 #[v0] w (RV (Rt G S r)) := by
 refine nt (n:=23) 2 [_] (h:=rfl) (res1 rfl) fun _=>pg rfl (pg rfl (sq (pg rfl (obk p fun a b p=>cq (fun s w=>∃ c,Le G c∧Inv w c S∧Hx s [(3,it a)]) ?_ ?_))))
 have _:=p
 refine bk (fun (d : Int × Int) s w=>∃ f,Le G f∧Inv w f S∧Hx s [(0,v0),(3,it d.1),(4,it d.2)]) b ⟨G,lr,I,hx rfl⟩ ?_
 clear b
 rintro d _ s _ p ⟨f,g,h,_,rfl⟩
 refine sq (sg (o_p 2 rfl ?_))
 obtain ⟨i,j,rfl,_⟩:=h0.slice
 refine o_p 2 rfl (en (cd p rfl (fun p=>?_) fun p=>?_))
 refine sn (sq (wpC_block (sq (wpC_drawI hmTryz h (Cl f S) [(0,.any),(1,.any),(2,.any),(3,.any),(4,.any),(5,.any),(6,.here),(7,.eff false),(8,.any)] (by kernel_rfl) fun _ k=>o_p 2 rfl (obk p fun _ l p=>o_sl (h0.m g).slice l rfl rfl rfl rfl rfl rfl rfl (.inr ⟨rfl,rfl⟩) (.inl rfl) (fun _ _ m=>?_) rfl)))))
 replace m:=SliceAt.repV m
 refine o_p 2 rfl (obk p fun _ n p=>o_ix (h0.m g).slice n rfl rfl rfl rfl rfl rfl rfl rfl (fun _ o=>ld k o rfl fun _ t=>?_) rfl)
 obtain rfl:=t.int
 refine obk p fun _ u p=>ca okf136 rfl (rvb (c136 k m (RepV.ofInt _ _) u) fun _ v x y=>nf (o_p 1 rfl (en (obk p fun z A p=>cq (fun s w=>Inv w v S∧Hx s [(0,(.slice i d0.length j)),(3,it z),(4,it d.2)]) ?_ ?_))))
 replace p:=A
 refine cd p rfl (fun p=>?_) fun p=>?_
 cases p
 exact rg (o_p 3 rfl (o_nil (⟨y,hx rfl⟩)))
 refine wpC_skip ?_
 cases p
 exact ⟨y,hx rfl⟩
 rintro s _ ⟨B,_,rfl⟩
 cases p
 exact bn (nx (rg (o_p 3 rfl (o_nil (nx ⟨_,rfl,⟨v,(g.t x),B,hx rfl⟩⟩)))))
 refine ex (px ?_)
 cases p
 refine ⟨_,rfl,?_⟩
 rintro rfl
 exact bh (nx (⟨f,g,h,hx rfl⟩))
 rintro s _ ⟨c,d,f,_,rfl⟩
 cases p
 exact nx (pg rfl (rt (Rt.mk d f ri)))
theorem c178 {v0 v1 : Value} {d0 : Int} {d1 : Int} (I : Inv w G S) {r : Int} (h0 : RepV G v0 d0) (h1 : RepV G v1 d1) (p : p_index d0 d1 = some r) :
 Calls Tryz.prog 178 #[v0, v1] w (RV (Rt G S r)) := by
 obtain rfl:=h0.int
 obtain rfl:=h1.int
 refine nt (n:=13) 4 [_,_] (h:=rfl) (res1 rfl) fun _=>pg rfl (sg (o_p 3 rfl (obk p fun a b p=>oq (fun s w=>∃ c,Le G c∧Inv w c S∧Hx s [(4,it a)]) ?_ ?_)))
 replace p:=b
 refine sp 7 p rfl (fun p=>?_) fun p=>?_
 refine o_p 4 rfl (obk p fun _ d p=>ca okf120 rfl (rvi (c120 I (RepV.ofBool _ _) (RepV.ofInt _ _) d) fun _ f g h=>nf ?_))
 cases p
 exact o_p 1 rfl (o_nil (⟨f,g,h,hx rfl⟩))
 refine o_p 4 rfl (obk p fun _ d p=>ca okf120 rfl (rvi (c120 I (RepV.ofBool _ _) (RepV.ofInt _ _) d) fun _ f g h=>nf ?_))
 cases p
 exact o_p 1 rfl (o_nil (⟨f,g,h,hx rfl⟩))
 rintro s _ ⟨c,d,f,_,rfl⟩
 cases p
 exact nx (rt (Rt.mk d f ri))
theorem c181 {v0 v1 : Value} {d0 : List ByteArray} {d1 : ByteArray} (I : Inv w G S) {r : Bool} (h0 : RepV G v0 d0) (h1 : RepV G v1 d1) (p : r2_HasText d0 d1 = some r) :
 Calls Tryz.prog 181 #[v0, v1] w (RV (Rt G S r)) := by
 obtain rfl:=h1.str
 refine nt (n:=18) 4 [_,_] (h:=rfl) (res1 rfl) fun _=>pg rfl (sq (pg rfl (obk p fun a b p=>cq (fun s w=>∃ c : Unit,a = .inl c∧Inv w G S∧Hx s []) ?_ ?_)))
 have d:=p
 refine bk (fun (f : Int) s w=>Inv w G S∧Hx s [(0,v0),(1,.string d1),(5,it f)]) b ⟨I,hx rfl⟩ ?_
 clear b
 rintro f _ s _ p ⟨g,_,rfl⟩
 refine sq (sg (o_p 2 rfl ?_))
 obtain ⟨_,_,rfl,_⟩:=h0.slice
 refine o_p 2 rfl (en (cd p rfl (fun p=>?_) fun p=>?_))
 refine sn (sq (wpC_block (sg (o_p 2 rfl (obk p fun _ h p=>ix h0.slice h rfl rfl fun _ i=>ld g i rfl fun _ j=>?_)))))
 obtain rfl:=j.str
 refine o_p 2 rfl (en (cd p rfl (fun p=>?_) fun p=>?_))
 refine pg rfl (rt (br (pr ?_)))
 cases p
 refine ⟨_,rfl,?_⟩
 rintro rfl
 have p:=d
 cases p
 exact br (pr (pr (Rt.mk lr g rb)))
 refine wpC_skip ?_
 cases p
 exact bn (nx (rg (o_p 3 rfl (o_nil (nx ⟨_,rfl,⟨g,hx rfl⟩⟩)))))
 refine ex (px ?_)
 cases p
 refine ⟨_,rfl,?_⟩
 rintro rfl
 exact bh (nx (⟨_,rfl,g,hx rfl⟩))
 rintro s _ ⟨c,rfl,d,_,rfl⟩
 cases p
 exact nx (pg rfl (rt (Rt.mk lr d rb)))
theorem c182 {v0 : Value} {d0 : Linear} (I : Inv w G S) {r : Bool} (h0 : RepV G v0 d0) (p : r2_few d0 = some r) :
 Calls Tryz.prog 182 #[v0] w (RV (Rt G S r)) := by
 have _:=h0
 obtain rfl:=Linear.unp h0
 refine nt (n:=21) 2 [_] (h:=rfl) (res1 rfl) fun _=>sg (o_box I rfl rfl rfl (cs:=[it d0.c,it d0.n,it d0.t,it d0.f]) rfl fun a _ b=>nf (o_p 1 rfl (en (sg (o_p 1 rfl (lt b 0 rfl (obk p fun _ c p=>ca okf134 rfl (rvb (c134 b (RepV.ofInt _ _) (RepV.ofInt _ _) (RepV.ofInt _ _) c) fun _ d f g=>nf (o_p 1 rfl (obk p fun h i p=>oq (fun s w=>∃ j,Le d j∧Inv w j ([(a,blk [it d0.c,it d0.n,it d0.t,it d0.f] 266)]::S)∧Hx s [(2,.bool h)]) ?_ ?_))))))))))
 replace p:=i
 refine sp 6 p rfl (fun p=>?_) fun p=>?_
 refine o_p 1 rfl (lt g 0 rfl (obk p fun _ k p=>ca okf134 rfl (rvb (c134 g (RepV.ofInt _ _) (RepV.ofInt _ _) (RepV.ofInt _ _) k) fun _ l m n=>nf (o_p 2 rfl (sp 11 p rfl (fun p=>?_) fun p=>?_)))))
 refine o_p 1 rfl (lt n 0 rfl (obk p fun _ o p=>ca okf134 rfl (rvb (c134 n (RepV.ofInt _ _) (RepV.ofInt _ _) (RepV.ofInt _ _) o) fun _ t u v=>nf (o_p 2 rfl (sp 16 p rfl (fun p=>?_) fun p=>?_)))))
 refine o_p 1 rfl (lt v 0 rfl (obk p fun _ x p=>ca okf134 rfl (rvb (c134 v (RepV.ofInt _ _) (RepV.ofInt _ _) (RepV.ofInt _ _) x) fun _ y z A=>nf ?_)))
 cases p
 exact o_p 2 rfl (o_nil (⟨y,((m.t u).t z),A,hx rfl⟩))
 refine o_p 2 rfl (o_no rfl rfl ?_)
 cases p
 exact o_p 2 rfl (o_nil (⟨t,(m.t u),v,hx rfl⟩))
 refine o_p 2 rfl (o_no rfl rfl (o_p 4 rfl (o_no rfl rfl ?_)))
 cases p
 exact o_p 2 rfl (o_nil (⟨l,m,n,hx rfl⟩))
 refine o_p 2 rfl (o_no rfl rfl (o_p 4 rfl (o_no rfl rfl (o_p 4 rfl (o_no rfl rfl ?_)))))
 cases p
 exact o_p 2 rfl (o_nil (⟨d,lr,g,hx rfl⟩))
 rintro s _ ⟨j,k,l,_,rfl⟩
 cases p
 exact nx (rt (Rt.mk (f.t k) (l.del 0) rb))
theorem c185 (I : Inv w G S) {r : List ByteArray} (p : r2_reserved = some r) :
 Calls Tryz.prog 185 #[] w (RV (Rt G S r)) := by
 refine nt (n:=2) 0 [] (h:=rfl) (res1 rfl) fun _=>pg rfl (sg (o_bs (l:=[bs [112,114,111,116,111,99,111,108],bs [116,111,112,111,108,111,103,121],bs [115,116,97,116,101,115],bs [109,101,115,115,97,103,101,115],bs [118,97,108,117,101,115],bs [102,97,117,108,116,115],bs [114,101,115,105,108,105,101,110,99,101],bs [105,110,105,116,105,97,108],bs [108,101,97,100,101,114],bs [114,117,108,101],bs [108,111,99,97,108],bs [112,97,105,114],bs [98,114,111,97,100,99,97,115,116],bs [110,101,105,103,104,98,111,114],bs [112,97,115,115],bs [119,104,101,110],bs [101,120,105,115,116,115],bs [102,111,114,97,108,108],bs [114,101,97,100],bs [119,114,105,116,101],bs [115,101,110,100],bs [97,108,108],bs [97,116],bs [102,105,114,115,116],bs [108,97,115,116],bs [108,101,102,116],bs [114,105,103,104,116],bs [112,97,114,101,110,116],bs [99,104,105,108,100],bs [112,114,111,112,101,114,116,121],bs [110,101,118,101,114],bs [101,118,101,110,116,117,97,108,108,121],bs [115,116,97,114,116],bs [99,111,117,110,116],bs [97,100,106,97,99,101,110,116],bs [103,111,97,108],bs [99,108,105,113,117,101],bs [108,105,110,101],bs [114,105,110,103],bs [116,114,101,101],bs [99,114,97,115,104],bs [111,109,105,115,115,105,111,110],bs [97,114,98,105,116,114,97,114,121]]) (vs:=[.string (bs [112,114,111,116,111,99,111,108]),.string (bs [116,111,112,111,108,111,103,121]),.string (bs [115,116,97,116,101,115]),.string (bs [109,101,115,115,97,103,101,115]),.string (bs [118,97,108,117,101,115]),.string (bs [102,97,117,108,116,115]),.string (bs [114,101,115,105,108,105,101,110,99,101]),.string (bs [105,110,105,116,105,97,108]),.string (bs [108,101,97,100,101,114]),.string (bs [114,117,108,101]),.string (bs [108,111,99,97,108]),.string (bs [112,97,105,114]),.string (bs [98,114,111,97,100,99,97,115,116]),.string (bs [110,101,105,103,104,98,111,114]),.string (bs [112,97,115,115]),.string (bs [119,104,101,110]),.string (bs [101,120,105,115,116,115]),.string (bs [102,111,114,97,108,108]),.string (bs [114,101,97,100]),.string (bs [119,114,105,116,101]),.string (bs [115,101,110,100]),.string (bs [97,108,108]),.string (bs [97,116]),.string (bs [102,105,114,115,116]),.string (bs [108,97,115,116]),.string (bs [108,101,102,116]),.string (bs [114,105,103,104,116]),.string (bs [112,97,114,101,110,116]),.string (bs [99,104,105,108,100]),.string (bs [112,114,111,112,101,114,116,121]),.string (bs [110,101,118,101,114]),.string (bs [101,118,101,110,116,117,97,108,108,121]),.string (bs [115,116,97,114,116]),.string (bs [99,111,117,110,116]),.string (bs [97,100,106,97,99,101,110,116]),.string (bs [103,111,97,108]),.string (bs [99,108,105,113,117,101]),.string (bs [108,105,110,101]),.string (bs [114,105,110,103]),.string (bs [116,114,101,101]),.string (bs [99,114,97,115,104]),.string (bs [111,109,105,115,115,105,111,110]),.string (bs [97,114,98,105,116,114,97,114,121])]) I ⟨rz,⟨rz,⟨rz,⟨rz,⟨rz,⟨rz,⟨rz,⟨rz,⟨rz,⟨rz,⟨rz,⟨rz,⟨rz,⟨rz,⟨rz,⟨rz,⟨rz,⟨rz,⟨rz,⟨rz,⟨rz,⟨rz,⟨rz,⟨rz,⟨rz,⟨rz,⟨rz,⟨rz,⟨rz,⟨rz,⟨rz,⟨rz,⟨rz,⟨rz,⟨rz,⟨rz,⟨rz,⟨rz,⟨rz,⟨rz,⟨rz,⟨rz,⟨rz,trivial⟩⟩⟩⟩⟩⟩⟩⟩⟩⟩⟩⟩⟩⟩⟩⟩⟩⟩⟩⟩⟩⟩⟩⟩⟩⟩⟩⟩⟩⟩⟩⟩⟩⟩⟩⟩⟩⟩⟩⟩⟩⟩⟩ rfl rfl rfl ⟨rfl,rfl,⟨rfl,rfl,⟨rfl,rfl,⟨rfl,rfl,⟨rfl,rfl,⟨rfl,rfl,⟨rfl,rfl,⟨rfl,rfl,⟨rfl,rfl,⟨rfl,rfl,⟨rfl,rfl,⟨rfl,rfl,⟨rfl,rfl,⟨rfl,rfl,⟨rfl,rfl,⟨rfl,rfl,⟨rfl,rfl,⟨rfl,rfl,⟨rfl,rfl,⟨rfl,rfl,⟨rfl,rfl,⟨rfl,rfl,⟨rfl,rfl,⟨rfl,rfl,⟨rfl,rfl,⟨rfl,rfl,⟨rfl,rfl,⟨rfl,rfl,⟨rfl,rfl,⟨rfl,rfl,⟨rfl,rfl,⟨rfl,rfl,⟨rfl,rfl,⟨rfl,rfl,⟨rfl,rfl,⟨rfl,rfl,⟨rfl,rfl,⟨rfl,rfl,⟨rfl,rfl,⟨rfl,rfl,⟨rfl,rfl,⟨rfl,rfl,⟨rfl,rfl,trivial⟩⟩⟩⟩⟩⟩⟩⟩⟩⟩⟩⟩⟩⟩⟩⟩⟩⟩⟩⟩⟩⟩⟩⟩⟩⟩⟩⟩⟩⟩⟩⟩⟩⟩⟩⟩⟩⟩⟩⟩⟩⟩⟩ rfl elk9 rfl rfl rfl fun _ _ _ _ a b=>nf (o_p 1 rfl (en (rt ?_)))))
 obtain ⟨_,c,d,f⟩:=Inv.frz b 0 rfl a
 cases p
 exact Rt.mk c d f
theorem c190 {v0 v1 : Value} {d0 : List Bool} {d1 : List Bool} (I : Inv w G S) {r : Bool} (h0 : RepV G v0 d0) (h1 : RepV G v1 d1) (p : r7_sameMarks d0 d1 = some r) :
 Calls Tryz.prog 190 #[v0, v1] w (RV (Rt G S r)) := by
 refine nt (n:=21) 4 [_,_] (h:=rfl) (res1 rfl) fun _=>pg rfl (sq (pg rfl (obk p fun a b p=>cq (fun s w=>∃ c : Unit,a = .inl c∧Inv w G S∧Hx s []) ?_ ?_)))
 have d:=p
 refine bk (fun (f : Int) s w=>Inv w G S∧Hx s [(0,v0),(1,v1),(5,it f)]) b ⟨I,hx rfl⟩ ?_
 clear b
 rintro f _ s _ p ⟨g,_,rfl⟩
 refine sq (sg (o_p 2 rfl ?_))
 obtain ⟨_,_,rfl,_⟩:=h0.slice
 refine o_p 2 rfl (en (cd p rfl (fun p=>?_) fun p=>?_))
 refine sn (sq (wpC_block (sq (wpC_drawI hmTryz g (Cl G S) [(0,.any),(1,.any),(2,.any),(3,.here),(4,.any),(5,.any),(6,.any),(7,.here),(8,.any)] (by kernel_rfl) fun _ h=>o_p 2 rfl (obk p fun _ i p=>ix h0.slice i rfl rfl fun _ j=>ld h j rfl fun _ k=>?_)))))
 obtain rfl:=k.bool
 refine o_p 2 rfl (obk p fun _ l p=>ix h1.slice l rfl rfl fun _ m=>ld h m rfl fun _ n=>?_)
 obtain rfl:=n.bool
 refine o_p 1 rfl (en (cd p rfl (fun p=>?_) fun p=>?_))
 refine pg rfl (rt (br (pr ?_)))
 cases p
 refine ⟨_,rfl,?_⟩
 rintro rfl
 have p:=d
 cases p
 exact br (pr (pr (Rt.mk lr h rb)))
 refine wpC_skip ?_
 cases p
 exact bn (nx (rg (o_p 3 rfl (o_nil (nx ⟨_,rfl,⟨h,hx rfl⟩⟩)))))
 refine ex (px ?_)
 cases p
 refine ⟨_,rfl,?_⟩
 rintro rfl
 exact bh (nx (⟨_,rfl,g,hx rfl⟩))
 rintro s _ ⟨c,rfl,d,_,rfl⟩
 cases p
 exact nx (pg rfl (rt (Rt.mk lr d rb)))
theorem c196 {v0 : Value} {d0 : Int} (I : Inv w G S) {r : Bool} (h0 : RepV G v0 d0) (p : p_factor d0 = some r) :
 Calls Tryz.prog 196 #[v0] w (RV (Rt G S r)) := by
 obtain rfl:=h0.int
 refine nt (n:=9) 2 [_] (h:=rfl) (res1 rfl) fun _=>pg rfl (sg (o_p 3 rfl (obk p fun a b p=>oq (fun s w=>Inv w G S∧Hx s [(2,.bool a)]) ?_ ?_)))
 replace p:=b
 refine sp 5 p rfl (fun p=>?_) fun p=>?_
 cases p
 exact o_p 4 rfl (o_nil (⟨I,hx rfl⟩))
 cases p
 exact o_p 4 rfl (o_nil (⟨I,hx rfl⟩))
 rintro s _ ⟨c,_,rfl⟩
 cases p
 exact nx (rt (Rt.mk lr c rb))
theorem c199 {v0 v1 : Value} {d0 : Int} {d1 : Int} (I : Inv w G S) {r : Bool} (h0 : RepV G v0 d0) (h1 : RepV G v1 d1) (p : p_fits d0 d1 = some r) :
 Calls Tryz.prog 199 #[v0, v1] w (RV (Rt G S r)) := by
 obtain rfl:=h0.int
 obtain rfl:=h1.int
 refine nt (n:=17) 4 [_,_] (h:=rfl) (res1 rfl) fun _=>pg rfl (sq (pg rfl (wpC_block (sq (pg rfl (obk p fun a b p=>cq (fun s w=>Inv w G S∧Hx s [(1,it d1),(5,it d0),(6,.bool a)]) ?_ ?_))))))
 replace p:=b
 refine cd p rfl (fun p=>?_) fun p=>?_
 refine wpC_skip ?_
 cases p
 exact ⟨I,hx rfl⟩
 refine pg rfl (obk p fun c d p=>cq (fun s w=>Inv w G S∧Hx s [(1,it d1),(5,it d0),(6,.bool c)]) ?_ ?_)
 replace p:=d
 refine cd p rfl (fun p=>?_) fun p=>?_
 refine wpC_skip ?_
 cases p
 exact ⟨I,hx rfl⟩
 cases p
 exact rg (o_p 2 rfl (o_nil (⟨I,hx rfl⟩)))
 rintro s _ ⟨f,_,rfl⟩
 cases p
 exact ⟨f,hx rfl⟩
 rintro s _ ⟨c,_,rfl⟩
 refine nx (cd p rfl (fun p=>?_) fun p=>?_)
 cases p
 exact pg rfl (rt (br (pr (Rt.mk lr c rb))))
 refine sq (pg rfl (obk p fun d f p=>cq (fun s w=>Inv w G S∧Hx s [(1,it d1),(12,.bool d)]) ?_ ?_))
 replace p:=f
 refine cd p rfl (fun p=>?_) fun p=>?_
 refine wpC_skip ?_
 cases p
 exact ⟨c,hx rfl⟩
 cases p
 exact rg (o_p 2 rfl (o_nil (⟨c,hx rfl⟩)))
 rintro s _ ⟨g,_,rfl⟩
 refine nx (cd p rfl (fun p=>?_) fun p=>?_)
 cases p
 exact pg rfl (rt (br (pr (Rt.mk lr g rb))))
 refine wpC_skip ?_
 cases p
 exact bn (nx (pg rfl (rt (Rt.mk lr g rb))))
theorem c200 {v0 v1 : Value} {d0 : Rule} {d1 : Int} (I : Inv w G S) {r : Bool} (h0 : RepV G v0 d0) (h1 : RepV G v1 d1) (p : p_surplus d0 d1 = some r) :
 Calls Tryz.prog 200 #[v0, v1] w (RV (Rt G S r)) := by
 have _:=h0
 obtain ⟨a,b,c,d,f,g,h,i,rfl,j,k,l,m,n,o,t,u⟩:=Rule.unp h0
 obtain rfl:=h1.int
 refine nt (n:=105) 4 [_,_] (h:=rfl) (res1 rfl) fun _=>sg (o_box I rfl rfl rfl (cs:=[.string d0.name,it d0.kind,it d0.frm,it d0.to,it d0.partnerFrom,it d0.partnerTo,a,b,c,d,it d0.read,it d0.write,f,it d0.at_,g,h,i,it d0.direction]) rfl fun v _ x=>nf (o_p 1 rfl (en (sq (sg (o_p 1 rfl (lt x 0 rfl (en (wpC_block (sq (wpC_block (sq (wpC_block (sq (wpC_block (sq (wpC_block (sq (wpC_block (sq (sq (pg rfl (cd p rfl (fun p=>?_) fun p=>?_)))))))))))))))))))))))
 refine ex (px (px (bh (nx (sq (sg (o_p 1 rfl (st x 0 rfl rfl (cs:=[nl]) rfl rfl rfl fun _ y=>nf (o_p 1 rfl (st y 0 rfl rfl (cs:=[nl]) rfl rfl rfl fun _ z=>nf (o_p 1 rfl (st z 0 rfl rfl (cs:=[nl]) rfl rfl rfl fun _ A=>nf (o_p 1 rfl (st A 0 rfl rfl (cs:=[nl]) rfl rfl rfl fun _ B=>nf (en (rg (o_p 1 rfl (st B 0 rfl rfl (cs:=[it (-1)]) rfl rfl rfl fun _ C=>nf (o_p 1 rfl (st C 0 rfl rfl (cs:=[it (-1)]) rfl rfl rfl fun _ D=>nf (en (ex (bm rfl (px (bm rfl (px (bm rfl (px (bm rfl (px (bh (nx (sg (o_p 1 rfl (lt D 0 rfl ?_)))))))))))))))))))))))))))))))))))
 obtain ⟨F,H,rfl,_⟩:=j.slice
 refine o_p 2 rfl (lt D 0 rfl (o_p 3 rfl (lt D 0 rfl (o_p 3 rfl (lt D 0 rfl (o_p 3 rfl (lt D 0 rfl (o_p 3 rfl (lt D 0 rfl ?_)))))))))
 obtain ⟨J,K,rfl,_⟩:=o.slice
 refine o_p 3 rfl (lt D 0 rfl ?_)
 obtain ⟨M,N,rfl,_⟩:=t.slice
 refine o_p 3 rfl (lt D 0 rfl ?_)
 obtain ⟨O,P,rfl,_⟩:=u.slice
 refine o_p 3 rfl (en (sg (o_p 3 rfl (obk p fun Q R p=>oq (fun s w=>Inv w G ([(v,blk [.string d0.name,it d0.kind,it d0.frm,it d0.to,it d0.partnerFrom,it d0.partnerTo,(.slice F d0.response.length H),nl,nl,nl,it (-1),it (-1),nl,it d0.at_,(.slice J d0.left.length K),(.slice M d0.right.length N),(.slice O d0.parent.length P),it d0.direction] 93)]::S)∧Hx s [(4,.bool Q)]) ?_ ?_))))
 replace p:=R
 refine sp 75 p rfl (fun p=>?_) fun p=>?_
 cases p
 exact o_p 30 rfl (o_nil (⟨D,hx rfl⟩))
 refine o_p 1 rfl (lt D 0 rfl (o_p 3 rfl (sp 80 p rfl (fun p=>?_) fun p=>?_)))
 cases p
 exact o_p 25 rfl (o_nil (⟨D,hx rfl⟩))
 refine o_p 1 rfl (lt D 0 rfl (o_p 3 rfl (sp 85 p rfl (fun p=>?_) fun p=>?_)))
 cases p
 exact o_p 20 rfl (o_nil (⟨D,hx rfl⟩))
 refine o_p 1 rfl (lt D 0 rfl (o_p 3 rfl (sp 90 p rfl (fun p=>?_) fun p=>?_)))
 cases p
 exact o_p 15 rfl (o_nil (⟨D,hx rfl⟩))
 refine o_p 1 rfl (lt D 0 rfl (o_p 3 rfl (sp 95 p rfl (fun p=>?_) fun p=>?_)))
 cases p
 exact o_p 10 rfl (o_nil (⟨D,hx rfl⟩))
 refine o_p 1 rfl (lt D 0 rfl (o_p 3 rfl (sp 100 p rfl (fun p=>?_) fun p=>?_)))
 cases p
 exact o_p 5 rfl (o_nil (⟨D,hx rfl⟩))
 refine o_p 1 rfl (lt D 0 rfl ?_)
 cases p
 exact o_p 3 rfl (o_nil (⟨D,hx rfl⟩))
 rintro s _ ⟨T,_,rfl⟩
 cases p
 exact nx (rt (Rt.mk lr (T.del 0) rb))
 refine sn (sq (pg rfl (cd p rfl (fun p=>?_) fun p=>?_)))
 refine ex (px (px (bm rfl (px (bh (nx (sq (sg (o_p 1 rfl (lt x 0 rfl ?_))))))))))
 obtain ⟨_,_,rfl,_⟩:=j.slice
 refine o_p 2 rfl (en (cd p rfl (fun p=>?_) fun p=>?_))
 cases p
 exact pg rfl (rt (pr (br (pr (br (pr (br (pr (br (pr (Rt.mk lr (x.del 0) rb)))))))))))
 refine sn (rg (o_p 1 rfl (st x 0 rfl rfl (cs:=[it 0]) rfl rfl rfl fun _ y=>nf (o_p 1 rfl (st y 0 rfl rfl (cs:=[it 0]) rfl rfl rfl fun _ z=>nf (o_nil (bn (nx (sq (sg (o_p 1 rfl (st z 0 rfl rfl (cs:=[nl]) rfl rfl rfl fun _ A=>nf (en (rg (o_p 1 rfl (st A 0 rfl rfl (cs:=[it (-1)]) rfl rfl rfl fun _ B=>nf (o_p 1 rfl (st B 0 rfl rfl (cs:=[it (-1)]) rfl rfl rfl fun _ C=>nf (en (ex (bm rfl (px (bm rfl (px (bh (nx (sg (o_p 1 rfl (lt C 0 rfl (o_p 2 rfl (lt C 0 rfl ?_)))))))))))))))))))))))))))))))
 obtain ⟨D,F,rfl,_⟩:=k.slice
 refine o_p 3 rfl (lt C 0 rfl ?_)
 obtain ⟨H,J,rfl,_⟩:=l.slice
 refine o_p 3 rfl (lt C 0 rfl ?_)
 obtain ⟨K,M,rfl,_⟩:=m.slice
 refine o_p 3 rfl (lt C 0 rfl ?_)
 obtain ⟨N,O,rfl,_⟩:=n.slice
 refine o_p 3 rfl (lt C 0 rfl ?_)
 obtain ⟨P,Q,rfl,_⟩:=o.slice
 refine o_p 3 rfl (lt C 0 rfl ?_)
 obtain ⟨R,T,rfl,_⟩:=t.slice
 refine o_p 3 rfl (lt C 0 rfl ?_)
 obtain ⟨U,V,rfl,_⟩:=u.slice
 refine o_p 3 rfl (en (sg (o_p 3 rfl (obk p fun W X p=>oq (fun s w=>Inv w G ([(v,blk [.string d0.name,it d0.kind,it d0.frm,it d0.to,it 0,it 0,nl,(.slice D d0.guards.length F),(.slice H d0.exists_.length J),(.slice K d0.forall_.length M),it (-1),it (-1),(.slice N d0.send.length O),it d0.at_,(.slice P d0.left.length Q),(.slice R d0.right.length T),(.slice U d0.parent.length V),it d0.direction] 93)]::S)∧Hx s [(4,.bool W)]) ?_ ?_))))
 replace p:=X
 refine sp 75 p rfl (fun p=>?_) fun p=>?_
 cases p
 exact o_p 30 rfl (o_nil (⟨C,hx rfl⟩))
 refine o_p 1 rfl (lt C 0 rfl (o_p 3 rfl (sp 80 p rfl (fun p=>?_) fun p=>?_)))
 cases p
 exact o_p 25 rfl (o_nil (⟨C,hx rfl⟩))
 refine o_p 1 rfl (lt C 0 rfl (o_p 3 rfl (sp 85 p rfl (fun p=>?_) fun p=>?_)))
 cases p
 exact o_p 20 rfl (o_nil (⟨C,hx rfl⟩))
 refine o_p 1 rfl (lt C 0 rfl (o_p 3 rfl (sp 90 p rfl (fun p=>?_) fun p=>?_)))
 cases p
 exact o_p 15 rfl (o_nil (⟨C,hx rfl⟩))
 refine o_p 1 rfl (lt C 0 rfl (o_p 3 rfl (sp 95 p rfl (fun p=>?_) fun p=>?_)))
 cases p
 exact o_p 10 rfl (o_nil (⟨C,hx rfl⟩))
 refine o_p 1 rfl (lt C 0 rfl (o_p 3 rfl (sp 100 p rfl (fun p=>?_) fun p=>?_)))
 cases p
 exact o_p 5 rfl (o_nil (⟨C,hx rfl⟩))
 refine o_p 1 rfl (lt C 0 rfl ?_)
 cases p
 exact o_p 3 rfl (o_nil (⟨C,hx rfl⟩))
 rintro s _ ⟨Y,_,rfl⟩
 cases p
 exact nx (rt (Rt.mk lr (Y.del 0) rb))
 refine sn (sq (pg rfl (cd p rfl (fun p=>?_) fun p=>?_)))
 refine ex (px (px (bm rfl (px (bm rfl (px (bh (nx (sq (sg (o_p 1 rfl (st x 0 rfl rfl (cs:=[nl]) rfl rfl rfl fun _ y=>nf (en (rg (o_p 1 rfl (st y 0 rfl rfl (cs:=[it (-1)]) rfl rfl rfl fun _ z=>nf (o_p 1 rfl (st z 0 rfl rfl (cs:=[it (-1)]) rfl rfl rfl fun _ A=>nf (en (ex (bm rfl (px (bm rfl (px (bh (nx (sg (o_p 1 rfl (lt A 0 rfl (o_p 2 rfl (lt A 0 rfl ?_)))))))))))))))))))))))))))))))
 obtain ⟨B,C,rfl,_⟩:=k.slice
 refine o_p 3 rfl (lt A 0 rfl ?_)
 obtain ⟨D,F,rfl,_⟩:=l.slice
 refine o_p 3 rfl (lt A 0 rfl ?_)
 obtain ⟨H,J,rfl,_⟩:=m.slice
 refine o_p 3 rfl (lt A 0 rfl ?_)
 obtain ⟨K,M,rfl,_⟩:=n.slice
 refine o_p 3 rfl (lt A 0 rfl ?_)
 obtain ⟨N,O,rfl,_⟩:=o.slice
 refine o_p 3 rfl (lt A 0 rfl ?_)
 obtain ⟨P,Q,rfl,_⟩:=t.slice
 refine o_p 3 rfl (lt A 0 rfl ?_)
 obtain ⟨R,T,rfl,_⟩:=u.slice
 refine o_p 3 rfl (en (sg (o_p 3 rfl (obk p fun U V p=>oq (fun s w=>Inv w G ([(v,blk [.string d0.name,it d0.kind,it d0.frm,it d0.to,it d0.partnerFrom,it d0.partnerTo,nl,(.slice B d0.guards.length C),(.slice D d0.exists_.length F),(.slice H d0.forall_.length J),it (-1),it (-1),(.slice K d0.send.length M),it d0.at_,(.slice N d0.left.length O),(.slice P d0.right.length Q),(.slice R d0.parent.length T),it d0.direction] 93)]::S)∧Hx s [(4,.bool U)]) ?_ ?_))))
 replace p:=V
 refine sp 75 p rfl (fun p=>?_) fun p=>?_
 cases p
 exact o_p 30 rfl (o_nil (⟨A,hx rfl⟩))
 refine o_p 1 rfl (lt A 0 rfl (o_p 3 rfl (sp 80 p rfl (fun p=>?_) fun p=>?_)))
 cases p
 exact o_p 25 rfl (o_nil (⟨A,hx rfl⟩))
 refine o_p 1 rfl (lt A 0 rfl (o_p 3 rfl (sp 85 p rfl (fun p=>?_) fun p=>?_)))
 cases p
 exact o_p 20 rfl (o_nil (⟨A,hx rfl⟩))
 refine o_p 1 rfl (lt A 0 rfl (o_p 3 rfl (sp 90 p rfl (fun p=>?_) fun p=>?_)))
 cases p
 exact o_p 15 rfl (o_nil (⟨A,hx rfl⟩))
 refine o_p 1 rfl (lt A 0 rfl (o_p 3 rfl (sp 95 p rfl (fun p=>?_) fun p=>?_)))
 cases p
 exact o_p 10 rfl (o_nil (⟨A,hx rfl⟩))
 refine o_p 1 rfl (lt A 0 rfl (o_p 3 rfl (sp 100 p rfl (fun p=>?_) fun p=>?_)))
 cases p
 exact o_p 5 rfl (o_nil (⟨A,hx rfl⟩))
 refine o_p 1 rfl (lt A 0 rfl ?_)
 cases p
 exact o_p 3 rfl (o_nil (⟨A,hx rfl⟩))
 rintro s _ ⟨W,_,rfl⟩
 cases p
 exact nx (rt (Rt.mk lr (W.del 0) rb))
 refine sn (sq (pg rfl (cd p rfl (fun p=>?_) fun p=>?_)))
 refine ex (px (px (bm rfl (px (bm rfl (px (bm rfl (px (bh (nx (sq (sg (o_p 1 rfl (st x 0 rfl rfl (cs:=[it 0]) rfl rfl rfl fun _ y=>nf (o_p 1 rfl (st y 0 rfl rfl (cs:=[nl]) rfl rfl rfl fun _ z=>nf (o_p 1 rfl (st z 0 rfl rfl (cs:=[nl]) rfl rfl rfl fun _ A=>nf (en (pg rfl (obk p fun B C p=>cq (fun s w=>∃ D,Inv w G ([(v,blk [.string d0.name,it d0.kind,it d0.frm,it d0.to,it d0.partnerFrom,it d0.partnerTo,a,b,c,d,it d0.read,it d0.write,f,it 0,nl,nl,D,it d0.direction] 93)]::S)∧RepV G D B∧Hx s [(2,pt v)]) ?_ ?_)))))))))))))))))))))
 replace p:=C
 refine cd p rfl (fun p=>?_) fun p=>?_
 refine rg (o_p 1 rfl (st A 0 rfl rfl (cs:=[nl]) rfl rfl rfl fun _ F=>nf ?_))
 cases p
 exact o_nil (⟨nl,F,((SliceAt.nil _).repV),hx rfl⟩)
 refine wpC_skip ?_
 cases p
 exact ⟨i,A,u,hx rfl⟩
 rintro s _ ⟨D,F,H,_,rfl⟩
 refine nx (ex (bm rfl (px (bh (nx (sg (o_p 1 rfl (lt F 0 rfl ?_))))))))
 obtain ⟨J,K,rfl,_⟩:=j.slice
 refine o_p 2 rfl (lt F 0 rfl ?_)
 obtain ⟨M,N,rfl,_⟩:=k.slice
 refine o_p 3 rfl (lt F 0 rfl ?_)
 obtain ⟨O,P,rfl,_⟩:=l.slice
 refine o_p 3 rfl (lt F 0 rfl ?_)
 obtain ⟨Q,R,rfl,_⟩:=m.slice
 refine o_p 3 rfl (lt F 0 rfl ?_)
 obtain ⟨T,U,rfl,_⟩:=n.slice
 refine o_p 3 rfl (lt F 0 rfl (o_p 3 rfl (lt F 0 rfl (o_p 3 rfl (lt F 0 rfl ?_)))))
 obtain ⟨V,W,rfl,_⟩:=H.slice
 refine o_p 3 rfl (en (sg (o_p 3 rfl (obk p fun X Y p=>oq (fun s w=>Inv w G ([(v,blk [.string d0.name,it d0.kind,it d0.frm,it d0.to,it d0.partnerFrom,it d0.partnerTo,(.slice J d0.response.length K),(.slice M d0.guards.length N),(.slice O d0.exists_.length P),(.slice Q d0.forall_.length R),it d0.read,it d0.write,(.slice T d0.send.length U),it 0,nl,nl,(.slice V B.length W),it d0.direction] 93)]::S)∧Hx s [(4,.bool X)]) ?_ ?_))))
 replace p:=Y
 refine sp 75 p rfl (fun p=>?_) fun p=>?_
 cases p
 exact o_p 30 rfl (o_nil (⟨F,hx rfl⟩))
 refine o_p 1 rfl (lt F 0 rfl (o_p 3 rfl (sp 80 p rfl (fun p=>?_) fun p=>?_)))
 cases p
 exact o_p 25 rfl (o_nil (⟨F,hx rfl⟩))
 refine o_p 1 rfl (lt F 0 rfl (o_p 3 rfl (sp 85 p rfl (fun p=>?_) fun p=>?_)))
 cases p
 exact o_p 20 rfl (o_nil (⟨F,hx rfl⟩))
 refine o_p 1 rfl (lt F 0 rfl (o_p 3 rfl (sp 90 p rfl (fun p=>?_) fun p=>?_)))
 cases p
 exact o_p 15 rfl (o_nil (⟨F,hx rfl⟩))
 refine o_p 1 rfl (lt F 0 rfl (o_p 3 rfl (sp 95 p rfl (fun p=>?_) fun p=>?_)))
 cases p
 exact o_p 10 rfl (o_nil (⟨F,hx rfl⟩))
 refine o_p 1 rfl (lt F 0 rfl (o_p 3 rfl (sp 100 p rfl (fun p=>?_) fun p=>?_)))
 cases p
 exact o_p 5 rfl (o_nil (⟨F,hx rfl⟩))
 refine o_p 1 rfl (lt F 0 rfl ?_)
 cases p
 exact o_p 3 rfl (o_nil (⟨F,hx rfl⟩))
 rintro s _ ⟨Z,_,rfl⟩
 cases p
 exact nx (rt (Rt.mk lr (Z.del 0) rb))
 refine sn (pg rfl (cd p rfl (fun p=>?_) fun p=>?_))
 refine ex (px (bm rfl (px (bm rfl (px (bm rfl (px (bm rfl (px (bh (nx (sg (o_p 1 rfl (st x 0 rfl rfl (cs:=[it 0]) rfl rfl rfl fun _ y=>nf (o_p 1 rfl (st y 0 rfl rfl (cs:=[it 0]) rfl rfl rfl fun _ z=>nf (o_p 1 rfl (st z 0 rfl rfl (cs:=[it 0]) rfl rfl rfl fun _ A=>nf (en (ex (bh (nx (sg (o_p 1 rfl (lt A 0 rfl ?_)))))))))))))))))))))))))
 obtain ⟨B,C,rfl,_⟩:=j.slice
 refine o_p 2 rfl (lt A 0 rfl ?_)
 obtain ⟨D,F,rfl,_⟩:=k.slice
 refine o_p 3 rfl (lt A 0 rfl ?_)
 obtain ⟨H,J,rfl,_⟩:=l.slice
 refine o_p 3 rfl (lt A 0 rfl ?_)
 obtain ⟨K,M,rfl,_⟩:=m.slice
 refine o_p 3 rfl (lt A 0 rfl ?_)
 obtain ⟨N,O,rfl,_⟩:=n.slice
 refine o_p 3 rfl (lt A 0 rfl ?_)
 obtain ⟨P,Q,rfl,_⟩:=o.slice
 refine o_p 3 rfl (lt A 0 rfl ?_)
 obtain ⟨R,T,rfl,_⟩:=t.slice
 refine o_p 3 rfl (lt A 0 rfl ?_)
 obtain ⟨U,V,rfl,_⟩:=u.slice
 refine o_p 3 rfl (en (sg (o_p 3 rfl (obk p fun W X p=>oq (fun s w=>Inv w G ([(v,blk [.string d0.name,it d0.kind,it d0.frm,it d0.to,it 0,it 0,(.slice B d0.response.length C),(.slice D d0.guards.length F),(.slice H d0.exists_.length J),(.slice K d0.forall_.length M),it d0.read,it d0.write,(.slice N d0.send.length O),it d0.at_,(.slice P d0.left.length Q),(.slice R d0.right.length T),(.slice U d0.parent.length V),it 0] 93)]::S)∧Hx s [(4,.bool W)]) ?_ ?_))))
 replace p:=X
 refine sp 75 p rfl (fun p=>?_) fun p=>?_
 cases p
 exact o_p 30 rfl (o_nil (⟨A,hx rfl⟩))
 refine o_p 1 rfl (lt A 0 rfl (o_p 3 rfl (sp 80 p rfl (fun p=>?_) fun p=>?_)))
 cases p
 exact o_p 25 rfl (o_nil (⟨A,hx rfl⟩))
 refine o_p 1 rfl (lt A 0 rfl (o_p 3 rfl (sp 85 p rfl (fun p=>?_) fun p=>?_)))
 cases p
 exact o_p 20 rfl (o_nil (⟨A,hx rfl⟩))
 refine o_p 1 rfl (lt A 0 rfl (o_p 3 rfl (sp 90 p rfl (fun p=>?_) fun p=>?_)))
 cases p
 exact o_p 15 rfl (o_nil (⟨A,hx rfl⟩))
 refine o_p 1 rfl (lt A 0 rfl (o_p 3 rfl (sp 95 p rfl (fun p=>?_) fun p=>?_)))
 cases p
 exact o_p 10 rfl (o_nil (⟨A,hx rfl⟩))
 refine o_p 1 rfl (lt A 0 rfl (o_p 3 rfl (sp 100 p rfl (fun p=>?_) fun p=>?_)))
 cases p
 exact o_p 5 rfl (o_nil (⟨A,hx rfl⟩))
 refine o_p 1 rfl (lt A 0 rfl ?_)
 cases p
 exact o_p 3 rfl (o_nil (⟨A,hx rfl⟩))
 rintro s _ ⟨Y,_,rfl⟩
 cases p
 exact nx (rt (Rt.mk lr (Y.del 0) rb))
 refine sn (ex (bm rfl (px (bm rfl (px (bm rfl (px (bm rfl (px (bm rfl (px (bh (nx (sg (o_p 1 rfl (lt x 0 rfl ?_))))))))))))))))
 obtain ⟨y,z,rfl,_⟩:=j.slice
 refine o_p 2 rfl (lt x 0 rfl ?_)
 obtain ⟨A,B,rfl,_⟩:=k.slice
 refine o_p 3 rfl (lt x 0 rfl ?_)
 obtain ⟨C,D,rfl,_⟩:=l.slice
 refine o_p 3 rfl (lt x 0 rfl ?_)
 obtain ⟨F,H,rfl,_⟩:=m.slice
 refine o_p 3 rfl (lt x 0 rfl ?_)
 obtain ⟨J,K,rfl,_⟩:=n.slice
 refine o_p 3 rfl (lt x 0 rfl ?_)
 obtain ⟨M,N,rfl,_⟩:=o.slice
 refine o_p 3 rfl (lt x 0 rfl ?_)
 obtain ⟨O,P,rfl,_⟩:=t.slice
 refine o_p 3 rfl (lt x 0 rfl ?_)
 obtain ⟨Q,R,rfl,_⟩:=u.slice
 refine o_p 3 rfl (en (sg (o_p 3 rfl (obk p fun T U p=>oq (fun s w=>Inv w G ([(v,blk [.string d0.name,it d0.kind,it d0.frm,it d0.to,it d0.partnerFrom,it d0.partnerTo,(.slice y d0.response.length z),(.slice A d0.guards.length B),(.slice C d0.exists_.length D),(.slice F d0.forall_.length H),it d0.read,it d0.write,(.slice J d0.send.length K),it d0.at_,(.slice M d0.left.length N),(.slice O d0.right.length P),(.slice Q d0.parent.length R),it d0.direction] 93)]::S)∧Hx s [(4,.bool T)]) ?_ ?_))))
 replace p:=U
 refine sp 75 p rfl (fun p=>?_) fun p=>?_
 cases p
 exact o_p 30 rfl (o_nil (⟨x,hx rfl⟩))
 refine o_p 1 rfl (lt x 0 rfl (o_p 3 rfl (sp 80 p rfl (fun p=>?_) fun p=>?_)))
 cases p
 exact o_p 25 rfl (o_nil (⟨x,hx rfl⟩))
 refine o_p 1 rfl (lt x 0 rfl (o_p 3 rfl (sp 85 p rfl (fun p=>?_) fun p=>?_)))
 cases p
 exact o_p 20 rfl (o_nil (⟨x,hx rfl⟩))
 refine o_p 1 rfl (lt x 0 rfl (o_p 3 rfl (sp 90 p rfl (fun p=>?_) fun p=>?_)))
 cases p
 exact o_p 15 rfl (o_nil (⟨x,hx rfl⟩))
 refine o_p 1 rfl (lt x 0 rfl (o_p 3 rfl (sp 95 p rfl (fun p=>?_) fun p=>?_)))
 cases p
 exact o_p 10 rfl (o_nil (⟨x,hx rfl⟩))
 refine o_p 1 rfl (lt x 0 rfl (o_p 3 rfl (sp 100 p rfl (fun p=>?_) fun p=>?_)))
 cases p
 exact o_p 5 rfl (o_nil (⟨x,hx rfl⟩))
 refine o_p 1 rfl (lt x 0 rfl ?_)
 cases p
 exact o_p 3 rfl (o_nil (⟨x,hx rfl⟩))
 rintro s _ ⟨V,_,rfl⟩
 cases p
 exact nx (rt (Rt.mk lr (V.del 0) rb))
theorem c202 {v0 v1 : Value} {d0 : Protocol} {d1 : Int} (I : Inv w G S) {r : Int} (h0 : RepV G v0 d0) (h1 : RepV G v1 d1) (p : p_value d0 d1 = some r) :
 Calls Tryz.prog 202 #[v0, v1] w (RV (Rt G S r)) := by
 have _:=h0
 obtain ⟨a,b,c,d,f,g,h,rfl,_,_,i,_,_,_,_⟩:=Protocol.unp h0
 obtain rfl:=h1.int
 refine nt (n:=15) 4 [_,_] (h:=rfl) (res1 rfl) fun _=>sg (o_box I rfl rfl rfl (cs:=[.string d0.name,it d0.topology,a,b,c,it d0.fault,d,f,g,h]) rfl fun j _ k=>nf (o_p 1 rfl (en (sg (o_p 3 rfl (obk p fun l m p=>oq (fun s w=>∃ n,Le G n∧Inv w n ([(j,blk [.string d0.name,it d0.topology,a,b,c,it d0.fault,d,f,g,h] 27)]::S)∧Hx s [(4,it l)]) ?_ ?_))))))
 replace p:=m
 refine sp 7 p rfl (fun p=>?_) fun p=>?_
 refine o_p 6 rfl (obk p fun _ o p=>ca okf120 rfl (rvi (c120 k (RepV.ofBool _ _) (RepV.ofInt _ _) o) fun _ t u v=>nf ?_))
 cases p
 exact o_p 1 rfl (o_nil (⟨t,u,v,hx rfl⟩))
 refine o_p 2 rfl (lt k 0 rfl ?_)
 obtain ⟨_,_,rfl,_⟩:=i.slice
 refine o_p 3 rfl (obk p fun _ o p=>ca okf120 rfl (rvi (c120 k (RepV.ofBool _ _) (RepV.ofInt _ _) o) fun _ t u v=>nf ?_))
 cases p
 exact o_p 1 rfl (o_nil (⟨t,u,v,hx rfl⟩))
 rintro s _ ⟨n,o,t,_,rfl⟩
 cases p
 exact nx (rt (Rt.mk o (t.del 0) ri))
theorem c203 {v0 v1 : Value} {d0 : List Int} {d1 : Int} (I : Inv w G S) {r : Int} (h0 : RepV G v0 d0) (h1 : RepV G v1 d1) (p : p_responses d0 d1 = some r) :
 Calls Tryz.prog 203 #[v0, v1] w (RV (Rt G S r)) := by
 obtain rfl:=h1.int
 refine nt (n:=25) 4 [_,_] (h:=rfl) (res1 rfl) fun _=>pg rfl (sq (sg (o_p 1 rfl ?_)))
 obtain ⟨a,b,rfl,_⟩:=h0.slice
 refine o_p 3 rfl (en (cd p rfl (fun p=>?_) fun p=>?_))
 cases p
 exact pg rfl (rt (pr (Rt.mk lr I ri)))
 refine sn (sq (pg rfl (obk p fun c d p=>cq (fun s w=>∃ f : Unit,∃ g,c = .inl f∧Le G g∧Inv w g S∧Hx s []) ?_ ?_)))
 have h:=p
 refine bk (fun (i : Int) s w=>∃ j,Le G j∧Inv w j S∧Hx s [(1,it d1),(12,(.slice a d0.length b)),(13,it (d0.length : Int)),(14,it i)]) d ⟨G,lr,I,hx rfl⟩ ?_
 clear d
 rintro i _ s _ p ⟨j,k,l,_,rfl⟩
 refine pg rfl (sq (cd p rfl (fun p=>?_) fun p=>?_))
 refine sn (sq (wpC_block (sg (obk p fun _ m p=>o_ix (h0.m k).slice m rfl rfl rfl rfl rfl rfl rfl rfl (fun _ n=>ld l n rfl fun _ o=>?_) rfl))))
 obtain rfl:=o.int
 refine o_p 1 rfl (en (sg (o_p 2 rfl (obk p fun _ t p=>ca okf178 rfl (rvi (c178 l (RepV.ofInt _ _) (RepV.ofInt _ _) t) fun _ u v x=>nf (o_p 1 rfl (en (pg rfl (cd p rfl (fun p=>?_) fun p=>?_)))))))))
 refine pg rfl (rt (br (pr ?_)))
 cases p
 refine ⟨_,rfl,?_⟩
 rintro rfl
 have p:=h
 cases p
 exact br (pr (pr (Rt.mk (k.t v) x ri)))
 refine wpC_skip ?_
 cases p
 exact bn (nx (rg (o_p 2 rfl (o_nil (nx ⟨_,rfl,⟨u,(k.t v),x,hx rfl⟩⟩)))))
 refine ex (px ?_)
 cases p
 refine ⟨_,rfl,?_⟩
 rintro rfl
 exact bh (nx (⟨_,j,rfl,k,l,hx rfl⟩))
 rintro s _ ⟨f,g,rfl,h,i,_,rfl⟩
 cases p
 exact nx (pg rfl (rt (Rt.mk h i ri)))
theorem c206 {v0 v1 : Value} {d0 : Protocol} {d1 : Rule} (I : Inv w G S) {r : Bool} (h0 : RepV G v0 d0) (h1 : RepV G v1 d1) (p : r2_unused d0 d1 = some r) :
 Calls Tryz.prog 206 #[v0, v1] w (RV (Rt G S r)) := by
 have _:=h0
 obtain ⟨a,b,c,d,f,g,h,rfl,_,_,_,_,_,_,_⟩:=Protocol.unp h0
 have _:=h1
 obtain ⟨i,j,k,l,m,n,o,t,rfl,u,v,x,y,z,A,B,C⟩:=Rule.unp h1
 refine nt (n:=136) 4 [_,_] (h:=rfl) (res1 rfl) fun _=>sg (o_box I rfl rfl rfl (cs:=[.string d0.name,it d0.topology,a,b,c,it d0.fault,d,f,g,h]) rfl fun D _ F=>nf (o_box F rfl rfl rfl (cs:=[.string d1.name,it d1.kind,it d1.frm,it d1.to,it d1.partnerFrom,it d1.partnerTo,i,j,k,l,it d1.read,it d1.write,m,it d1.at_,n,o,t,it d1.direction]) rfl fun H _ J=>nf (o_p 1 rfl (en (sq (wpC_drawI hmTryz J (Cl G S) [(0,.any),(1,.here),(2,.any),(3,.any),(4,.here),(5,.any),(6,.any),(7,.here),(8,.any),(9,.any),(10,.here),(11,.any),(12,.any),(13,.here),(14,.any),(15,.any),(16,.any),(17,.any),(18,.any),(19,.any)] (by kernel_rfl) fun _ K=>o_p 1 rfl (lt K 0 rfl (o_p 2 rfl (lt K 0 rfl (o_p 2 rfl (lt K 0 rfl (o_p 2 rfl (lt K 0 rfl (o_p 2 rfl (lt K 0 rfl (o_p 6 rfl (en (sq (sg (o_p 3 rfl (obk p fun M N p=>oq (fun s w=>Inv w G ([(H,blk [.string d1.name,it d1.kind,it d1.frm,it d1.to,it d1.partnerFrom,it d1.partnerTo,i,j,k,l,it d1.read,it d1.write,m,it d1.at_,n,o,t,it d1.direction] 93)]::[(D,blk [.string d0.name,it d0.topology,a,b,c,it d0.fault,d,f,g,h] 27)]::S)∧Hx s [(2,pt D),(3,pt H),(5,.bool (d1.kind == 1)),(6,.bool (d1.kind == 2)),(7,.bool (d1.kind == 3)),(8,.bool (d1.kind == 4)),(9,.bool (d1.kind == 5)),(50,.bool M)]) ?_ ?_)))))))))))))))))))))
 replace p:=N
 refine sp 27 p rfl (fun p=>?_) fun p=>?_
 refine o_p 1 rfl (lt K 0 rfl ?_)
 obtain ⟨_,_,rfl,_⟩:=v.slice
 refine o_p 3 rfl (sp 32 p rfl (fun p=>?_) fun p=>?_)
 cases p
 exact o_p 18 rfl (o_nil (⟨K,hx rfl⟩))
 refine o_p 1 rfl (lt K 0 rfl ?_)
 obtain ⟨_,_,rfl,_⟩:=x.slice
 refine o_p 4 rfl (sp 38 p rfl (fun p=>?_) fun p=>?_)
 cases p
 exact o_p 12 rfl (o_nil (⟨K,hx rfl⟩))
 refine o_p 1 rfl (lt K 0 rfl ?_)
 obtain ⟨_,_,rfl,_⟩:=y.slice
 refine o_p 4 rfl (sp 44 p rfl (fun p=>?_) fun p=>?_)
 cases p
 exact o_p 6 rfl (o_nil (⟨K,hx rfl⟩))
 refine o_p 1 rfl (lt K 0 rfl ?_)
 obtain ⟨_,_,rfl,_⟩:=z.slice
 cases p
 exact o_p 4 rfl (o_nil (⟨K,hx rfl⟩))
 cases p
 exact o_p 23 rfl (o_nil (⟨K,hx rfl⟩))
 rintro s _ ⟨O,_,rfl⟩
 refine nx (cd p rfl (fun p=>?_) fun p=>?_)
 cases p
 exact pg rfl (rt (pr (Rt.mk lr ((O.del 1).del 0) rb)))
 refine sn (sq (sg (o_p 3 rfl (obk p fun P Q p=>oq (fun s w=>Inv w G ([(H,blk [.string d1.name,it d1.kind,it d1.frm,it d1.to,it d1.partnerFrom,it d1.partnerTo,i,j,k,l,it d1.read,it d1.write,m,it d1.at_,n,o,t,it d1.direction] 93)]::[(D,blk [.string d0.name,it d0.topology,a,b,c,it d0.fault,d,f,g,h] 27)]::S)∧Hx s [(2,pt D),(3,pt H),(6,.bool (d1.kind == 2)),(7,.bool (d1.kind == 3)),(8,.bool (d1.kind == 4)),(9,.bool (d1.kind == 5)),(70,.bool P)]) ?_ ?_))))
 replace p:=Q
 refine sp 53 p rfl (fun p=>?_) fun p=>?_
 refine o_p 4 rfl (sp 57 p rfl (fun p=>?_) fun p=>?_)
 refine o_p 4 rfl (sp 61 p rfl (fun p=>?_) fun p=>?_)
 refine o_p 1 rfl (lt O 0 rfl (o_p 2 rfl (sp 65 p rfl (fun p=>?_) fun p=>?_)))
 cases p
 exact o_p 5 rfl (o_nil (⟨O,hx rfl⟩))
 refine o_p 1 rfl (lt O 0 rfl ?_)
 cases p
 exact o_p 3 rfl (o_nil (⟨O,hx rfl⟩))
 cases p
 exact o_p 9 rfl (o_nil (⟨O,hx rfl⟩))
 cases p
 exact o_p 13 rfl (o_nil (⟨O,hx rfl⟩))
 cases p
 exact o_p 17 rfl (o_nil (⟨O,hx rfl⟩))
 rintro s _ ⟨R,_,rfl⟩
 refine nx (cd p rfl (fun p=>?_) fun p=>?_)
 cases p
 exact pg rfl (rt (pr (Rt.mk lr ((R.del 1).del 0) rb)))
 refine sn (sq (sg (o_p 3 rfl (obk p fun T U p=>oq (fun s w=>Inv w G ([(H,blk [.string d1.name,it d1.kind,it d1.frm,it d1.to,it d1.partnerFrom,it d1.partnerTo,i,j,k,l,it d1.read,it d1.write,m,it d1.at_,n,o,t,it d1.direction] 93)]::[(D,blk [.string d0.name,it d0.topology,a,b,c,it d0.fault,d,f,g,h] 27)]::S)∧Hx s [(2,pt D),(3,pt H),(7,.bool (d1.kind == 3)),(8,.bool (d1.kind == 4)),(9,.bool (d1.kind == 5)),(86,.bool T)]) ?_ ?_))))
 replace p:=U
 refine sp 73 p rfl (fun p=>?_) fun p=>?_
 refine o_p 4 rfl (sp 77 p rfl (fun p=>?_) fun p=>?_)
 refine o_p 1 rfl (lt R 0 rfl (o_p 2 rfl (sp 81 p rfl (fun p=>?_) fun p=>?_)))
 cases p
 exact o_p 5 rfl (o_nil (⟨R,hx rfl⟩))
 refine o_p 1 rfl (lt R 0 rfl ?_)
 cases p
 exact o_p 3 rfl (o_nil (⟨R,hx rfl⟩))
 cases p
 exact o_p 9 rfl (o_nil (⟨R,hx rfl⟩))
 cases p
 exact o_p 13 rfl (o_nil (⟨R,hx rfl⟩))
 rintro s _ ⟨V,_,rfl⟩
 refine nx (cd p rfl (fun p=>?_) fun p=>?_)
 cases p
 exact pg rfl (rt (pr (Rt.mk lr ((V.del 1).del 0) rb)))
 refine sn (sq (sg (o_p 3 rfl (obk p fun W X p=>oq (fun s w=>Inv w G ([(H,blk [.string d1.name,it d1.kind,it d1.frm,it d1.to,it d1.partnerFrom,it d1.partnerTo,i,j,k,l,it d1.read,it d1.write,m,it d1.at_,n,o,t,it d1.direction] 93)]::[(D,blk [.string d0.name,it d0.topology,a,b,c,it d0.fault,d,f,g,h] 27)]::S)∧Hx s [(2,pt D),(3,pt H),(8,.bool (d1.kind == 4)),(103,.bool W)]) ?_ ?_))))
 replace p:=X
 refine sp 89 p rfl (fun p=>?_) fun p=>?_
 refine o_p 1 rfl (lt V 0 rfl ?_)
 obtain ⟨_,_,rfl,_⟩:=u.slice
 refine o_p 4 rfl (sp 95 p rfl (fun p=>?_) fun p=>?_)
 cases p
 exact o_p 8 rfl (o_nil (⟨V,hx rfl⟩))
 refine o_p 3 rfl (sp 98 p rfl (fun p=>?_) fun p=>?_)
 refine o_p 1 rfl (lt V 0 rfl ?_)
 cases p
 exact o_p 3 rfl (o_nil (⟨V,hx rfl⟩))
 cases p
 exact o_p 5 rfl (o_nil (⟨V,hx rfl⟩))
 refine o_p 9 rfl (sp 98 p rfl (fun p=>?_) fun p=>?_)
 refine o_p 1 rfl (lt V 0 rfl ?_)
 cases p
 exact o_p 3 rfl (o_nil (⟨V,hx rfl⟩))
 cases p
 exact o_p 5 rfl (o_nil (⟨V,hx rfl⟩))
 rintro s _ ⟨Y,_,rfl⟩
 refine nx (cd p rfl (fun p=>?_) fun p=>?_)
 cases p
 exact pg rfl (rt (pr (Rt.mk lr ((Y.del 1).del 0) rb)))
 refine sn (sq (sg (o_p 3 rfl (obk p fun Z a0 p=>oq (fun s w=>Inv w G ([(H,blk [.string d1.name,it d1.kind,it d1.frm,it d1.to,it d1.partnerFrom,it d1.partnerTo,i,j,k,l,it d1.read,it d1.write,m,it d1.at_,n,o,t,it d1.direction] 93)]::[(D,blk [.string d0.name,it d0.topology,a,b,c,it d0.fault,d,f,g,h] 27)]::S)∧Hx s [(2,pt D),(3,pt H),(8,.bool (d1.kind == 4)),(122,.bool Z)]) ?_ ?_))))
 replace p:=a0
 refine sp 106 p rfl (fun p=>?_) fun p=>?_
 refine o_p 1 rfl (lt Y 0 rfl (o_p 2 rfl (sp 110 p rfl (fun p=>?_) fun p=>?_)))
 cases p
 exact o_p 12 rfl (o_nil (⟨Y,hx rfl⟩))
 refine o_p 1 rfl (lt Y 0 rfl ?_)
 obtain ⟨_,_,rfl,_⟩:=A.slice
 refine o_p 4 rfl (sp 116 p rfl (fun p=>?_) fun p=>?_)
 cases p
 exact o_p 6 rfl (o_nil (⟨Y,hx rfl⟩))
 refine o_p 1 rfl (lt Y 0 rfl ?_)
 obtain ⟨_,_,rfl,_⟩:=B.slice
 cases p
 exact o_p 4 rfl (o_nil (⟨Y,hx rfl⟩))
 cases p
 exact o_p 16 rfl (o_nil (⟨Y,hx rfl⟩))
 rintro s _ ⟨a1,_,rfl⟩
 refine nx (cd p rfl (fun p=>?_) fun p=>?_)
 cases p
 exact pg rfl (rt (pr (Rt.mk lr ((a1.del 1).del 0) rb)))
 refine sn (sg (o_p 1 rfl (lt a1 0 rfl ?_)))
 obtain ⟨a2,a3,rfl,_⟩:=C.slice
 refine o_p 3 rfl (obk p fun a4 a5 p=>oq (fun s w=>Inv w G ([(H,blk [.string d1.name,it d1.kind,it d1.frm,it d1.to,it d1.partnerFrom,it d1.partnerTo,i,j,k,l,it d1.read,it d1.write,m,it d1.at_,n,o,(.slice a2 d1.parent.length a3),it d1.direction] 93)]::[(D,blk [.string d0.name,it d0.topology,a,b,c,it d0.fault,d,f,g,h] 27)]::S)∧Hx s [(4,.bool a4)]) ?_ ?_)
 replace p:=a5
 refine sp 127 p rfl (fun p=>?_) fun p=>?_
 refine o_p 2 rfl (sp 129 p rfl (fun p=>?_) fun p=>?_)
 refine o_p 1 rfl (lt a1 1 rfl ?_)
 cases p
 exact o_p 5 rfl (o_nil (⟨a1,hx rfl⟩))
 cases p
 exact o_p 7 rfl (o_nil (⟨a1,hx rfl⟩))
 cases p
 exact o_p 9 rfl (o_nil (⟨a1,hx rfl⟩))
 rintro s _ ⟨a6,_,rfl⟩
 cases p
 exact nx (rt (Rt.mk lr ((a6.del 1).del 0) rb))
theorem c209 {v0 v1 : Value} {d0 : List ByteArray} {d1 : ByteArray} (I : Inv w G S) {r : Int} (h0 : RepV G v0 d0) (h1 : RepV G v1 d1) (p : sl_Indexstring_string_ d0 d1 = some r) :
 Calls Tryz.prog 209 #[v0, v1] w (RV (Rt G S r)) := by
 obtain rfl:=h1.str
 refine nt (n:=19) 4 [_,_] (h:=rfl) (res1 rfl) fun _=>pg rfl (sq (sg (o_p 1 rfl ?_)))
 obtain ⟨a,b,rfl,_⟩:=h0.slice
 refine o_p 2 rfl (en (obk p fun c d p=>cq (fun s w=>∃ f : Unit,c = .inl f∧Inv w G S∧Hx s []) ?_ ?_))
 have g:=p
 refine bk (fun (h : Int) s w=>Inv w G S∧Hx s [(0,(.slice a d0.length b)),(1,.string d1),(7,it (d0.length : Int)),(8,it h)]) d ⟨I,hx rfl⟩ ?_
 clear d
 rintro h _ s _ p ⟨i,_,rfl⟩
 refine pg rfl (sq (cd p rfl (fun p=>?_) fun p=>?_))
 refine sn (sq (wpC_block (pg rfl (sg (o_p 3 rfl (obk p fun _ j p=>ix h0.slice j rfl rfl fun _ k=>ld i k rfl fun _ l=>?_))))))
 obtain rfl:=l.str
 refine o_p 1 rfl (en (cd p rfl (fun p=>?_) fun p=>?_))
 refine pg rfl (rt (br (pr ?_)))
 cases p
 refine ⟨_,rfl,?_⟩
 rintro rfl
 have p:=g
 cases p
 exact br (pr (pr (Rt.mk lr i ri)))
 refine wpC_skip ?_
 cases p
 exact bn (nx (rg (o_p 2 rfl (o_nil (nx ⟨_,rfl,⟨i,hx rfl⟩⟩)))))
 refine ex (px ?_)
 cases p
 refine ⟨_,rfl,?_⟩
 rintro rfl
 exact bh (nx (⟨_,rfl,i,hx rfl⟩))
 rintro s _ ⟨f,rfl,g,_,rfl⟩
 cases p
 exact nx (pg rfl (rt (Rt.mk lr g ri)))
theorem c214 {v0 v1 : Value} {d0 : Threshold} {d1 : Threshold} (I : Inv w G S) {r : Bool} (h0 : RepV G v0 d0) (h1 : RepV G v1 d1) (p : r2_SameThreshold d0 d1 = some r) :
 Calls Tryz.prog 214 #[v0, v1] w (RV (Rt G S r)) := by
 have _:=h0
 obtain rfl:=Threshold.unp h0
 have _:=h1
 obtain rfl:=Threshold.unp h1
 refine nt (n:=24) 4 [_,_] (h:=rfl) (res1 rfl) fun _=>sg (o_box I rfl rfl rfl (cs:=[it d0.message,it d0.coef,it d0.bound.c,it d0.bound.n,it d0.bound.t,it d0.bound.f]) rfl fun a _ b=>nf (o_box b rfl rfl rfl (cs:=[it d1.message,it d1.coef,it d1.bound.c,it d1.bound.n,it d1.bound.t,it d1.bound.f]) rfl fun c _ d=>nf (o_p 1 rfl (en (sg (o_p 1 rfl (lt d 1 rfl (o_p 1 rfl (lt d 0 rfl (o_p 2 rfl (obk p fun f g p=>oq (fun s w=>Inv w G ([(c,blk [it d1.message,it d1.coef,it d1.bound.c,it d1.bound.n,it d1.bound.t,it d1.bound.f] 293)]::[(a,blk [it d0.message,it d0.coef,it d0.bound.c,it d0.bound.n,it d0.bound.t,it d0.bound.f] 293)]::S)∧Hx s [(4,.bool f)]) ?_ ?_)))))))))))
 replace p:=g
 refine sp 10 p rfl (fun p=>?_) fun p=>?_
 refine o_p 1 rfl (lt d 1 rfl (o_p 1 rfl (lt d 0 rfl (o_p 3 rfl (sp 17 p rfl (fun p=>?_) fun p=>?_)))))
 refine o_p 1 rfl (lta d 1 rfl (cs:=[it d0.bound.c,it d0.bound.n,it d0.bound.t,it d0.bound.f]) rfl (o_p 1 rfl (lta d 0 rfl (cs:=[it d1.bound.c,it d1.bound.n,it d1.bound.t,it d1.bound.f]) rfl (o_eqS (xa:=[d0.bound.c,d0.bound.n,d0.bound.t,d0.bound.f]) (xb:=[d1.bound.c,d1.bound.n,d1.bound.t,d1.bound.f]) ie266 rfl rfl rfl rfl rfl rfl rfl ?_ rfl))))
 cases p
 exact o_p 2 rfl (o_nil (⟨d,hx rfl⟩))
 cases p
 exact o_p 7 rfl (o_nil (⟨d,hx rfl⟩))
 cases p
 exact o_p 14 rfl (o_nil (⟨d,hx rfl⟩))
 rintro s _ ⟨h,_,rfl⟩
 cases p
 exact nx (rt (Rt.mk lr ((h.del 1).del 0) rb))
theorem c27 {v0 : Value} {d0 : Protocol} (I : Inv w G S) {r : Bool} (h0 : RepV G v0 d0) (p : l2_Big d0 = some r) :
 Calls Tryz.prog 27 #[v0] w (RV (Rt G S r)) := by
 have _:=h0
 obtain ⟨a,b,c,d,f,g,h,rfl,i,j,k,l,m,n,o⟩:=Protocol.unp h0
 refine nt (n:=76) 2 [_] (h:=rfl) (res1 rfl) fun _=>sg ?_
 refine o_box I rfl rfl rfl (cs:=[.string d0.name,it d0.topology,a,b,c,it d0.fault,d,f,g,h]) rfl fun t _ u=>nf ?_
 refine o_p 1 rfl (en (sq (sg (o_p 1 rfl (lt u 0 rfl (o_p 3 rfl (obk p fun v x p=>?_)))))))
 refine oq (fun s w=>Inv w G ([(t,blk [.string d0.name,it d0.topology,a,b,c,it d0.fault,d,f,g,h] 27)]::S)∧Hx s [(1,pt t),(49,.bool v)]) ?_ ?_
 replace p:=x
 refine sp 8 p rfl (fun p=>?_) fun p=>?_
 cases p
 exact o_p 41 rfl (o_nil (⟨u,hx rfl⟩))
 refine o_p 1 rfl (lt u 0 rfl ?_)
 obtain ⟨_,_,rfl,_⟩:=i.slice
 refine o_p 4 rfl (sp 14 p rfl (fun p=>?_) fun p=>?_)
 cases p
 exact o_p 35 rfl (o_nil (⟨u,hx rfl⟩))
 refine o_p 1 rfl (lt u 0 rfl ?_)
 obtain ⟨_,_,rfl,_⟩:=j.slice
 refine o_p 4 rfl (sp 20 p rfl (fun p=>?_) fun p=>?_)
 cases p
 exact o_p 29 rfl (o_nil (⟨u,hx rfl⟩))
 refine o_p 1 rfl (lt u 0 rfl ?_)
 obtain ⟨_,_,rfl,_⟩:=k.slice
 refine o_p 4 rfl (sp 26 p rfl (fun p=>?_) fun p=>?_)
 cases p
 exact o_p 23 rfl (o_nil (⟨u,hx rfl⟩))
 refine o_p 1 rfl (lt u 0 rfl ?_)
 obtain ⟨_,_,rfl,_⟩:=l.slice
 refine o_p 4 rfl (sp 32 p rfl (fun p=>?_) fun p=>?_)
 cases p
 exact o_p 17 rfl (o_nil (⟨u,hx rfl⟩))
 refine o_p 1 rfl (lt u 0 rfl ?_)
 obtain ⟨_,_,rfl,_⟩:=m.slice
 refine o_p 4 rfl (sp 38 p rfl (fun p=>?_) fun p=>?_)
 cases p
 exact o_p 11 rfl (o_nil (⟨u,hx rfl⟩))
 refine o_p 1 rfl (lt u 0 rfl ?_)
 obtain ⟨_,_,rfl,_⟩:=n.slice
 refine o_p 4 rfl (sp 44 p rfl (fun p=>?_) fun p=>?_)
 cases p
 exact o_p 5 rfl (o_nil (⟨u,hx rfl⟩))
 refine o_p 1 rfl (lt u 0 rfl ?_)
 obtain ⟨_,_,rfl,_⟩:=o.slice
 cases p
 exact o_p 3 rfl (o_nil (⟨u,hx rfl⟩))
 rintro s _ ⟨y,_,rfl⟩
 refine nx (cd p rfl (fun p=>?_) fun p=>?_)
 cases p
 exact pg rfl (rt (pr (Rt.mk lr (y.del 0) rb)))
 refine sn (sq (pg rfl (obk p fun z A p=>?_)))
 refine cq (fun s w=>∃ B : Unit,∃ C,z = .inl B∧Le G C∧Inv w C ([(t,blk [.string d0.name,it d0.topology,a,b,c,it d0.fault,d,f,g,h] 27)]::S)∧Hx s [(1,pt t)]) ?_ ?_
 have D:=p
 refine bk (fun (F : Int) s w=>∃ H,Le G H∧Inv w H ([(t,blk [.string d0.name,it d0.topology,a,b,c,it d0.fault,d,f,g,h] 27)]::S)∧Hx s [(1,pt t),(3,it F)]) A ⟨G,lr,y,hx rfl⟩ ?_
 clear A
 rintro F _ s _ p ⟨H,J,K,_,rfl⟩
 refine sq (sg (o_p 2 rfl (lt K 0 rfl ?_)))
 obtain ⟨_,_,rfl,_⟩:=o.slice
 refine o_p 2 rfl (en (cd p rfl (fun p=>?_) fun p=>?_))
 refine sn (sq ?_)
 refine wpC_block ?_
 refine sg (o_p 1 rfl (lt K 0 rfl (o_p 1 rfl (obk p fun _ M p=>?_))))
 refine o_ix (o.m J).slice M rfl rfl rfl rfl rfl rfl rfl rfl (fun _ N=>?_) rfl
 refine ld K N rfl fun _ O=>?_
 have P:=O
 obtain ⟨_,_,_,_,_,_,_,_,rfl,_,_,_,_,_,_,_,_⟩:=Rule.unp O
 refine obk p fun _ Q p=>?_
 refine ca okf63 rfl (rvb (c63 K P Q) fun _ R T U=>?_)
 refine nf (en (cd p rfl (fun p=>?_) fun p=>?_))
 refine pg rfl (rt (br (pr ?_)))
 cases p
 refine ⟨_,rfl,?_⟩
 rintro rfl
 have p:=D
 cases p
 exact br (pr (pr (Rt.mk (J.t T) (U.del 0) rb)))
 refine wpC_skip ?_
 cases p
 exact bn (nx (rg (o_p 3 rfl (o_nil (nx ⟨_,rfl,⟨R,(J.t T),U,hx rfl⟩⟩)))))
 refine ex (px ?_)
 cases p
 refine ⟨_,rfl,?_⟩
 rintro rfl
 exact bh (nx (⟨_,H,rfl,J,K,hx rfl⟩))
 rintro s _ ⟨B,C,rfl,D,F,_,rfl⟩
 refine nx (sg (o_p 1 rfl (lt F 0 rfl (obk p fun _ H p=>?_))))
 refine ca okf64 rfl (rvb (c64 F (i.m D) H) fun _ J K M=>?_)
 refine nf (o_p 1 rfl (obk p fun N O p=>?_))
 refine oq (fun s w=>∃ P,Le J P∧Inv w P ([(t,blk [.string d0.name,it d0.topology,a,b,c,it d0.fault,d,f,g,h] 27)]::S)∧Hx s [(2,.bool N)]) ?_ ?_
 replace p:=O
 refine sp 66 p rfl (fun p=>?_) fun p=>?_
 refine o_p 2 rfl (o_no rfl rfl (o_p 4 rfl (o_no rfl rfl ?_)))
 cases p
 exact o_p 2 rfl (o_nil (⟨J,lr,M,hx rfl⟩))
 refine o_p 1 rfl (lt M 0 rfl (obk p fun _ Q p=>?_))
 refine ca okf64 rfl (rvb (c64 M (j.m (D.t K)) Q) fun _ R T U=>?_)
 refine nf (o_p 2 rfl (sp 71 p rfl (fun p=>?_) fun p=>?_))
 refine o_p 2 rfl (o_no rfl rfl ?_)
 cases p
 exact o_p 2 rfl (o_nil (⟨R,T,U,hx rfl⟩))
 refine o_p 1 rfl (lt U 0 rfl (obk p fun _ V p=>?_))
 refine ca okf64 rfl (rvb (c64 U (k.m ((D.t K).t T)) V) fun _ W X Y=>?_)
 refine nf ?_
 cases p
 exact o_p 2 rfl (o_nil (⟨W,(T.t X),Y,hx rfl⟩))
 rintro s _ ⟨P,Q,R,_,rfl⟩
 cases p
 exact nx (rt (Rt.mk ((D.t K).t Q) (R.del 0) rb))
theorem c36 {v0 v1 : Value} {d0 : List Int} {d1 : List Int} (I : Inv w G S) {r : Bool} (h0 : RepV G v0 d0) (h1 : RepV G v1 d1) (p : r1_SameInts d0 d1 = some r) :
 Calls Tryz.prog 36 #[v0, v1] w (RV (Rt G S r)) := by
 refine nt (n:=9) 4 [_,_] (h:=rfl) (res1 rfl) fun _=>pg rfl (sg (o_p 2 rfl (obk p fun _ a p=>ca okf77 rfl (rvi (c77 I h0 h1 a) fun _ _ b c=>nf ?_))))
 cases p
 exact o_p 2 rfl (en (rt (Rt.mk b c rb)))
theorem c70 {v0 v1 : Value} {d0 : List Int} {d1 : Int} (I : Inv w G S) {r : Bool} (h0 : RepV G v0 d0) (h1 : RepV G v1 d1) (p : sl_Containsint_int_ d0 d1 = some r) :
 Calls Tryz.prog 70 #[v0, v1] w (RV (Rt G S r)) := by
 obtain rfl:=h1.int
 refine nt (n:=9) 4 [_,_] (h:=rfl) (res1 rfl) fun _=>pg rfl (sg (o_p 2 rfl (obk p fun _ a p=>ca okf124 rfl (rvi (c124 I h0 (RepV.ofInt _ _) a) fun _ _ b c=>nf ?_))))
 cases p
 exact o_p 2 rfl (en (rt (Rt.mk b c rb)))
theorem c122 {v0 v1 : Value} {d0 : Protocol} {d1 : List Int} (I : Inv w G S) {r : Int} (h0 : RepV G v0 d0) (h1 : RepV G v1 d1) (p : p_adjacent d0 d1 = some r) :
 Calls Tryz.prog 122 #[v0, v1] w (RV (Rt G S r)) := by
 have _:=h0
 obtain ⟨a,b,c,d,f,g,h,rfl,i,_,_,_,_,_,_⟩:=Protocol.unp h0
 refine nt (n:=30) 4 [_,_] (h:=rfl) (res1 rfl) fun _=>sg ?_
 refine o_box I rfl rfl rfl (cs:=[.string d0.name,it d0.topology,a,b,c,it d0.fault,d,f,g,h]) rfl fun j _ k=>nf ?_
 refine o_p 1 rfl (en (sq (sg (o_p 1 rfl ?_))))
 obtain ⟨_,_,rfl,_⟩:=h1.slice
 refine o_p 2 rfl (en (cd p rfl (fun p=>?_) fun p=>?_))
 cases p
 exact pg rfl (rt (pr (Rt.mk lr (k.del 0) ri)))
 refine sn (sq (sg (o_p 1 rfl (lt k 0 rfl (o_p 1 rfl (en (cd p rfl (fun p=>?_) fun p=>?_)))))))
 cases p
 exact pg rfl (rt (pr (Rt.mk lr (k.del 0) ri)))
 refine sn (sq (pg rfl (cd p rfl (fun p=>?_) fun p=>?_)))
 cases p
 exact pg rfl (rt (pr (Rt.mk lr (k.del 0) ri)))
 refine sn (sq ?_)
 refine wpC_drawI hmTryz k (Cl G ([(j,blk [.string d0.name,it d0.topology,a,b,c,it d0.fault,d,f,g,h] 27)]::S)) [(0,.any),(1,.any),(2,.here),(3,.any),(4,.here),(5,.any),(7,.any),(8,.any),(9,.far),(10,.any),(11,.far),(12,.any),(6,.eff true),(13,.eff false),(14,.eff false),(15,.eff false),(16,.any)] (by kernel_rfl) fun _ l=>?_
 refine o_p 1 rfl (obk p fun _ m p=>ix h1.slice m rfl rfl fun _ n=>ld l n rfl fun _ o=>?_)
 obtain rfl:=o.int
 refine o_p 1 rfl (lt l 0 rfl ?_)
 obtain ⟨_,_,rfl,_⟩:=i.slice
 refine o_p 2 rfl (obk p fun _ t p=>ix h1.slice t rfl rfl fun _ u=>?_)
 refine o_ldF (Cl.le l lr) u rfl rfl rfl rfl rfl fun _ v=>?_
 obtain rfl:=v.int
 refine o_p 1 rfl ?_
 refine o_ltF (Cl.le l lr) (.S 0 rfl) rfl rfl rfl rfl rfl rfl ?_
 refine o_p 1 rfl (obk p fun x y p=>?_)
 refine ca okf178 rfl (rvi (c178 l (RepV.ofInt _ _) (RepV.ofInt _ _) y) fun _ _ z A=>?_)
 refine ⟨fun _=>Cl.le A z,obk p fun B C p=>?_⟩
 refine ca okf178 rfl (rvi (c178 A (RepV.ofInt _ _) (RepV.ofInt _ _) C) fun _ _ D F=>?_)
 refine nf ?_
 refine o_bs (l:=[x,B]) (vs:=[it x,it B]) F ⟨ri,⟨ri,trivial⟩⟩ rfl rfl rfl ⟨rfl,rfl,⟨rfl,rfl,trivial⟩⟩ rfl elk37 rfl rfl rfl fun _ _ _ _ H J=>nf ?_
 obtain ⟨_,_,K,M,N⟩:=Inv.lend J 0 rfl H
 refine obk p fun _ O p=>?_
 refine ca okf119 rfl (rvi (c119 K M O) fun _ _ P Q=>?_)
 obtain ⟨_,R,T⟩:=N _ _ _ P Q
 refine nf ?_
 cases p
 exact o_p 1 rfl (en (rt (Rt.mk ((z.t D).t R) ((T.del 1).del 0) ri)))
theorem c132 {v0 : Value} {d0 : ByteArray} (I : Inv w G S) {r : Bool} (h0 : RepV G v0 d0) (p : r2_ValidName d0 = some r) :
 Calls Tryz.prog 132 #[v0] w (RV (Rt G S r)) := by
 obtain rfl:=h0.str
 refine nt (n:=58) 2 [_] (h:=rfl) (res1 rfl) fun _=>pg rfl (sq (sg (o_p 2 rfl (obk p fun _ a p=>?_))))
 refine ca okf134 rfl (rvb (c134 I (RepV.ofInt _ _) (RepV.ofInt _ _) (RepV.ofInt _ _) a) fun _ b c d=>?_)
 refine nf (o_p 2 rfl (obk p fun f g p=>?_))
 refine oq (fun s w=>Inv w b S∧Hx s [(0,.string d0),(17,.bool f)]) ?_ ?_
 replace p:=g
 refine sp 8 p rfl (fun p=>?_) fun p=>?_
 cases p
 exact o_p 9 rfl (o_nil (⟨d,hx rfl⟩))
 refine o_p 1 rfl (obk p fun _ h p=>?_)
 refine o_ixs h rfl rfl rfl rfl rfl rfl rfl ?_ rfl
 refine o_p 3 rfl (sp 13 p rfl (fun p=>?_) fun p=>?_)
 cases p
 exact o_p 4 rfl (o_nil (⟨d,hx rfl⟩))
 refine o_p 1 rfl (obk p fun _ i p=>?_)
 refine o_ixs i rfl rfl rfl rfl rfl rfl rfl ?_ rfl
 cases p
 exact o_p 2 rfl (o_nil (⟨d,hx rfl⟩))
 rintro s _ ⟨h,_,rfl⟩
 refine nx (cd p rfl (fun p=>?_) fun p=>?_)
 cases p
 exact pg rfl (rt (pr (Rt.mk c h rb)))
 refine sn (sq (pg rfl (obk p fun i j p=>?_)))
 refine cq (fun s w=>∃ k : Unit,i = .inl k∧Inv w b S∧Hx s [(0,.string d0)]) ?_ ?_
 have l:=p
 refine bk (fun (m : Int) s w=>Inv w b S∧Hx s [(0,.string d0),(3,it m)]) j ⟨h,hx rfl⟩ ?_
 clear j
 rintro m _ s _ p ⟨n,_,rfl⟩
 refine sq (pg rfl (cd p rfl (fun p=>?_) fun p=>?_))
 refine sn (sq ?_)
 refine wpC_block ?_
 refine sg (o_p 2 rfl (obk p fun _ o p=>?_))
 refine o_ixs o rfl rfl rfl rfl rfl rfl rfl ?_ rfl
 refine o_p 2 rfl (obk p fun t u p=>?_)
 refine oq (fun s w=>Inv w b S∧Hx s [(0,.string d0),(3,it m),(53,.bool t)]) ?_ ?_
 replace p:=u
 refine sp 28 p rfl (fun p=>?_) fun p=>?_
 refine o_p 2 rfl (obk p fun _ v p=>?_)
 refine o_ixs v rfl rfl rfl rfl rfl rfl rfl ?_ rfl
 refine o_p 4 rfl (sp 35 p rfl (fun p=>?_) fun p=>?_)
 refine o_p 2 rfl (obk p fun _ x p=>?_)
 refine o_ixs x rfl rfl rfl rfl rfl rfl rfl ?_ rfl
 refine o_p 2 rfl (sp 40 p rfl (fun p=>?_) fun p=>?_)
 refine o_p 2 rfl (obk p fun _ y p=>?_)
 refine o_ixs y rfl rfl rfl rfl rfl rfl rfl ?_ rfl
 refine o_p 5 rfl (sp 48 p rfl (fun p=>?_) fun p=>?_)
 refine o_p 2 rfl (obk p fun _ z p=>?_)
 refine o_ixs z rfl rfl rfl rfl rfl rfl rfl ?_ rfl
 cases p
 exact o_p 2 rfl (o_nil (⟨n,hx rfl⟩))
 cases p
 exact o_p 5 rfl (o_nil (⟨n,hx rfl⟩))
 refine o_p 10 rfl (obk p fun _ y p=>?_)
 refine o_ixs y rfl rfl rfl rfl rfl rfl rfl ?_ rfl
 cases p
 exact o_p 2 rfl (o_nil (⟨n,hx rfl⟩))
 cases p
 exact o_p 18 rfl (o_nil (⟨n,hx rfl⟩))
 refine o_p 9 rfl (obk p fun _ v p=>?_)
 refine o_ixs v rfl rfl rfl rfl rfl rfl rfl ?_ rfl
 refine o_p 2 rfl (sp 40 p rfl (fun p=>?_) fun p=>?_)
 refine o_p 2 rfl (obk p fun _ x p=>?_)
 refine o_ixs x rfl rfl rfl rfl rfl rfl rfl ?_ rfl
 refine o_p 5 rfl (sp 48 p rfl (fun p=>?_) fun p=>?_)
 refine o_p 2 rfl (obk p fun _ y p=>?_)
 refine o_ixs y rfl rfl rfl rfl rfl rfl rfl ?_ rfl
 cases p
 exact o_p 2 rfl (o_nil (⟨n,hx rfl⟩))
 cases p
 exact o_p 5 rfl (o_nil (⟨n,hx rfl⟩))
 refine o_p 10 rfl (obk p fun _ x p=>?_)
 refine o_ixs x rfl rfl rfl rfl rfl rfl rfl ?_ rfl
 cases p
 exact o_p 2 rfl (o_nil (⟨n,hx rfl⟩))
 rintro s _ ⟨v,_,rfl⟩
 refine nx (cd p rfl (fun p=>?_) fun p=>?_)
 refine pg rfl (rt (br (pr ?_)))
 cases p
 refine ⟨_,rfl,?_⟩
 rintro rfl
 have p:=l
 cases p
 exact br (pr (pr (Rt.mk c v rb)))
 refine wpC_skip ?_
 cases p
 exact bn (nx (rg (o_p 3 rfl (o_nil (nx ⟨_,rfl,⟨v,hx rfl⟩⟩)))))
 refine ex (px ?_)
 cases p
 refine ⟨_,rfl,?_⟩
 rintro rfl
 exact bh (nx (⟨_,rfl,n,hx rfl⟩))
 rintro s _ ⟨k,rfl,l,_,rfl⟩
 refine nx (sg (obk p fun _ m p=>?_))
 refine ca okf185 rfl (rv (c185 l  m) fun _ _ _ n o t=>?_)
 refine nf (o_p 1 rfl (obk p fun _ u p=>?_))
 refine ca okf181 rfl (rvb (c181 o t (RepV.ofStr _ _) u) fun _ _ v x=>?_)
 refine nf ?_
 cases p
 exact o_p 2 rfl (en (rt (Rt.mk ((c.t n).t v) x rb)))
theorem c133 {v0 v1 : Value} {d0 : List Int} {d1 : Int} (I : Inv w G S) {r : Int} (h0 : RepV G v0 d0) (h1 : RepV G v1 d1) (p : r2_Set d0 d1 = some r) :
 Calls Tryz.prog 133 #[v0, v1] w (RV (Rt G S r)) := by
 obtain rfl:=h1.int
 refine nt (n:=37) 4 [_,_] (h:=rfl) (res1 rfl) fun _=>pg rfl (sq (pg rfl (obk p fun a b p=>cq (fun s w=>∃ c : Unit,∃ d,a = .inl c∧Le G d∧Inv w d S∧Hx s [(0,v0)]) ?_ ?_)))
 have f:=p
 refine bk (fun (g : Int) s w=>∃ h,Le G h∧Inv w h S∧Hx s [(0,v0),(1,it d1),(5,it g)]) b ⟨G,lr,I,hx rfl⟩ ?_
 clear b
 rintro g _ s _ p ⟨h,i,j,_,rfl⟩
 refine sq (sg (o_p 2 rfl ?_))
 obtain ⟨_,_,rfl,_⟩:=h0.slice
 refine o_p 2 rfl (en (cd p rfl (fun p=>?_) fun p=>?_))
 refine sn (sq (wpC_block (sg (o_p 2 rfl (obk p fun _ k p=>o_ix (h0.m i).slice k rfl rfl rfl rfl rfl rfl rfl rfl (fun _ l=>ld j l rfl fun _ m=>?_) rfl)))))
 obtain rfl:=m.int
 refine o_p 2 rfl (obk p fun _ n p=>ca okf134 rfl (rvb (c134 j (RepV.ofInt _ _) (RepV.ofInt _ _) (RepV.ofInt _ _) n) fun _ o t u=>nf (o_p 1 rfl (en (cd p rfl (fun p=>?_) fun p=>?_)))))
 refine pg rfl (rt (br (pr ?_)))
 cases p
 refine ⟨_,rfl,?_⟩
 rintro rfl
 have p:=f
 cases p
 exact br (pr (pr (Rt.mk (i.t t) u ri)))
 refine wpC_skip ?_
 cases p
 exact bn (nx (rg (o_p 3 rfl (o_nil (nx ⟨_,rfl,⟨o,(i.t t),u,hx rfl⟩⟩)))))
 refine ex (px ?_)
 cases p
 refine ⟨_,rfl,?_⟩
 rintro rfl
 exact bh (nx (⟨_,h,rfl,i,j,hx rfl⟩))
 rintro s _ ⟨c,d,rfl,f,g,_,rfl⟩
 refine nx (sq (pg rfl (obk p fun h i p=>cq (fun s w=>∃ j : Unit,h = .inl j∧Inv w d S∧Hx s []) ?_ ?_)))
 have k:=p
 refine bk (fun (l : Int) s w=>Inv w d S∧Hx s [(0,v0),(6,it l)]) i ⟨g,hx rfl⟩ ?_
 clear i
 rintro l _ s _ p ⟨m,_,rfl⟩
 refine sq (sg (o_p 2 rfl ?_))
 obtain ⟨_,_,rfl,_⟩:=h0.slice
 refine o_p 2 rfl (en (cd p rfl (fun p=>?_) fun p=>?_))
 refine sn (sq (wpC_block (sq (wpC_drawI hmTryz m (Cl d S) [(0,.any),(1,.any),(2,.any),(3,.here),(4,.any),(5,.any),(6,.any),(7,.any),(8,.here),(9,.any)] (by kernel_rfl) fun _ n=>o_p 2 rfl (obk p fun _ o p=>o_ix (h0.m f).slice o rfl rfl rfl rfl rfl rfl rfl rfl (fun _ t=>ld n t rfl fun _ u=>?_) rfl)))))
 obtain rfl:=u.int
 refine o_p 3 rfl (obk p fun _ v p=>o_ix (h0.m f).slice v rfl rfl rfl rfl rfl rfl rfl rfl (fun _ x=>ld n x rfl fun _ y=>?_) rfl)
 obtain rfl:=y.int
 refine o_p 1 rfl (en (cd p rfl (fun p=>?_) fun p=>?_))
 refine pg rfl (rt (br (pr ?_)))
 cases p
 refine ⟨_,rfl,?_⟩
 rintro rfl
 have p:=k
 cases p
 exact br (pr (pr (Rt.mk f n ri)))
 refine wpC_skip ?_
 cases p
 exact bn (nx (rg (o_p 3 rfl (o_nil (nx ⟨_,rfl,⟨n,hx rfl⟩⟩)))))
 refine ex (px ?_)
 cases p
 refine ⟨_,rfl,?_⟩
 rintro rfl
 exact bh (nx (⟨_,rfl,m,hx rfl⟩))
 rintro s _ ⟨j,rfl,k,_,rfl⟩
 cases p
 exact nx (pg rfl (rt (Rt.mk f k ri)))
theorem c174 {v0 : Value} {d0 : Linear} (I : Inv w G S) {r : Bool} (h0 : RepV G v0 d0) (p : p_bounded d0 = some r) :
 Calls Tryz.prog 174 #[v0] w (RV (Rt G S r)) := by
 have _:=h0
 obtain rfl:=Linear.unp h0
 refine nt (n:=21) 2 [_] (h:=rfl) (res1 rfl) fun _=>sg ?_
 refine o_box I rfl rfl rfl (cs:=[it d0.c,it d0.n,it d0.t,it d0.f]) rfl fun a _ b=>nf ?_
 refine o_p 1 rfl (en (sg (o_p 1 rfl (lt b 0 rfl (obk p fun _ c p=>?_)))))
 refine ca okf196 rfl (rvb (c196 b (RepV.ofInt _ _) c) fun _ d f g=>?_)
 refine nf (o_p 1 rfl (obk p fun h i p=>?_))
 refine oq (fun s w=>∃ j,Le d j∧Inv w j ([(a,blk [it d0.c,it d0.n,it d0.t,it d0.f] 266)]::S)∧Hx s [(2,.bool h)]) ?_ ?_
 replace p:=i
 refine sp 6 p rfl (fun p=>?_) fun p=>?_
 refine o_p 1 rfl (lt g 0 rfl (obk p fun _ k p=>?_))
 refine ca okf196 rfl (rvb (c196 g (RepV.ofInt _ _) k) fun _ l m n=>?_)
 refine nf (o_p 2 rfl (sp 11 p rfl (fun p=>?_) fun p=>?_))
 refine o_p 1 rfl (lt n 0 rfl (obk p fun _ o p=>?_))
 refine ca okf196 rfl (rvb (c196 n (RepV.ofInt _ _) o) fun _ t u v=>?_)
 refine nf (o_p 2 rfl (sp 16 p rfl (fun p=>?_) fun p=>?_))
 refine o_p 1 rfl (lt v 0 rfl (obk p fun _ x p=>?_))
 refine ca okf196 rfl (rvb (c196 v (RepV.ofInt _ _) x) fun _ y z A=>?_)
 refine nf ?_
 cases p
 exact o_p 2 rfl (o_nil (⟨y,((m.t u).t z),A,hx rfl⟩))
 refine o_p 2 rfl (o_no rfl rfl ?_)
 cases p
 exact o_p 2 rfl (o_nil (⟨t,(m.t u),v,hx rfl⟩))
 refine o_p 2 rfl (o_no rfl rfl (o_p 4 rfl (o_no rfl rfl ?_)))
 cases p
 exact o_p 2 rfl (o_nil (⟨l,m,n,hx rfl⟩))
 refine o_p 2 rfl (o_no rfl rfl (o_p 4 rfl (o_no rfl rfl (o_p 4 rfl (o_no rfl rfl ?_)))))
 cases p
 exact o_p 2 rfl (o_nil (⟨d,lr,g,hx rfl⟩))
 rintro s _ ⟨j,k,l,_,rfl⟩
 cases p
 exact nx (rt (Rt.mk (f.t k) (l.del 0) rb))
theorem c195 {v0 v1 : Value} {d0 : List ByteArray} {d1 : ByteArray} (I : Inv w G S) {r : Bool} (h0 : RepV G v0 d0) (h1 : RepV G v1 d1) (p : sl_Containsstring_string_ d0 d1 = some r) :
 Calls Tryz.prog 195 #[v0, v1] w (RV (Rt G S r)) := by
 obtain rfl:=h1.str
 refine nt (n:=9) 4 [_,_] (h:=rfl) (res1 rfl) fun _=>pg rfl (sg (o_p 2 rfl (obk p fun _ a p=>ca okf209 rfl (rvi (c209 I h0 (RepV.ofStr _ _) a) fun _ _ b c=>nf ?_))))
 cases p
 exact o_p 2 rfl (en (rt (Rt.mk b c rb)))
theorem c201 {v0 v1 : Value} {d0 : Protocol} {d1 : List Threshold} (I : Inv w G S) {r : Int} (h0 : RepV G v0 d0) (h1 : RepV G v1 d1) (p : p_guards d0 d1 = some r) :
 Calls Tryz.prog 201 #[v0, v1] w (RV (Rt G S r)) := by
 have _:=h0
 obtain ⟨a,b,c,d,f,g,h,rfl,_,i,_,_,_,_,_⟩:=Protocol.unp h0
 refine nt (n:=44) 4 [_,_] (h:=rfl) (res1 rfl) fun _=>sg ?_
 refine o_box I rfl rfl rfl (cs:=[.string d0.name,it d0.topology,a,b,c,it d0.fault,d,f,g,h]) rfl fun j _ k=>nf ?_
 refine o_p 1 rfl (en (sq (sg (o_p 1 rfl ?_))))
 obtain ⟨l,m,rfl,_⟩:=h1.slice
 refine o_p 2 rfl (en (obk p fun n o p=>?_))
 refine cq (fun s w=>∃ t : Unit,∃ u,n = .inl t∧Le G u∧Inv w u ([(j,blk [.string d0.name,it d0.topology,a,b,c,it d0.fault,d,f,g,h] 27)]::S)∧Hx s [(1,(.slice l d1.length m))]) ?_ ?_
 have v:=p
 refine bk (fun (x : Int) s w=>∃ y,Le G y∧Inv w y ([(j,blk [.string d0.name,it d0.topology,a,b,c,it d0.fault,d,f,g,h] 27)]::S)∧Hx s [(1,(.slice l d1.length m)),(2,pt j),(8,(.slice l d1.length m)),(9,it (d1.length : Int)),(10,it x)]) o ⟨G,lr,k,hx rfl⟩ ?_
 clear o
 rintro x _ s _ p ⟨y,z,A,_,rfl⟩
 refine pg rfl (sq (cd p rfl (fun p=>?_) fun p=>?_))
 refine sn (sq ?_)
 refine wpC_block ?_
 refine sg (obk p fun B C p=>?_)
 refine o_ix (h1.m z).slice C rfl rfl rfl rfl rfl rfl rfl rfl (fun _ D=>?_) rfl
 refine ld A D rfl fun _ F=>?_
 have _:=F
 obtain rfl:=Threshold.unp F
 refine o_alloc A rfl rfl rfl zero293 fun H _ J=>nf ?_
 refine st J 0 rfl rfl (cs:=[it B.message,it B.coef,it B.bound.c,it B.bound.n,it B.bound.t,it B.bound.f]) rfl rfl rfl fun _ K=>nf ?_
 refine en (sq ?_)
 refine wpC_drawI hmTryz K (Cl y ([(H,blk [it B.message,it B.coef,it B.bound.c,it B.bound.n,it B.bound.t,it B.bound.f] 293)]::[(j,blk [.string d0.name,it d0.topology,a,b,c,it d0.fault,d,f,g,h] 27)]::S)) [(0,.any),(1,.here),(2,.any),(3,.here),(4,.any),(6,.any),(7,.far),(8,.any),(15,.any),(16,.far),(5,.eff true),(9,.any),(10,.any),(11,.here),(12,.any),(13,.any),(14,.eff true),(17,.eff false),(18,.any),(19,.eff false),(20,.eff false),(21,.eff false),(22,.any)] (by kernel_rfl) fun _ M=>?_
 refine o_p 1 rfl (lt M 0 rfl (o_p 1 rfl (lt M 1 rfl ?_)))
 obtain ⟨N,O,rfl,_⟩:=i.slice
 refine o_p 2 rfl ?_
 refine o_ltF (Cl.le M lr) (.S 0 rfl) rfl rfl rfl rfl rfl rfl ?_
 refine o_p 2 rfl ?_
 refine o_ltaF (Cl.le M lr) (.S 0 rfl) rfl rfl rfl (cs:=[it B.bound.c,it B.bound.n,it B.bound.t,it B.bound.f]) rfl rfl rfl ?_
 refine obk p fun P Q p=>?_
 refine ca okf178 rfl (rvi (c178 M (RepV.ofInt _ _) (RepV.ofInt _ _) Q) fun _ R T U=>?_)
 refine ⟨fun _=>Cl.le U T,o_p 1 rfl (obk p fun V W p=>?_)⟩
 refine oq (fun s w=>∃ X,Le R X∧Inv w X ([(H,blk [it B.message,it B.coef,it B.bound.c,it B.bound.n,it B.bound.t,it B.bound.f] 293)]::[(j,blk [.string d0.name,it d0.topology,a,(.slice N d0.messages.length O),c,it d0.fault,d,f,g,h] 27)]::S)∧Hx s [(1,(.slice l d1.length m)),(2,pt j),(7,it V),(8,(.slice l d1.length m)),(9,it (d1.length : Int)),(10,it x)]) ?_ ?_
 replace p:=W
 refine sp 23 p rfl (fun p=>?_) fun p=>?_
 refine o_p 4 rfl (obk p fun Y Z p=>?_)
 refine ca okf120 rfl (rvi (c120 U (RepV.ofBool _ _) (RepV.ofInt _ _) Z) fun _ _ a0 a1=>?_)
 refine ⟨fun _=>Cl.le a1 (T.t a0),obk p fun _ a2 p=>?_⟩
 refine ca okf174 rfl (rvb (c174 a1 (Linear.pk (⟨B.bound.c,B.bound.n,B.bound.t,B.bound.f⟩ : Linear)) a2) fun _ _ a3 a4=>?_)
 refine nf (o_p 1 rfl (obk p fun a5 a6 p=>?_))
 refine ca okf120 rfl (rvi (c120 a4 (RepV.ofBool _ _) (RepV.ofInt _ _) a6) fun _ _ a7 a8=>?_)
 refine nf ?_
 refine o_bs (l:=[P,Y,a5]) (vs:=[it P,it Y,it a5]) a8 ⟨ri,⟨ri,⟨ri,trivial⟩⟩⟩ rfl rfl rfl ⟨rfl,rfl,⟨rfl,rfl,⟨rfl,rfl,trivial⟩⟩⟩ rfl elk37 rfl rfl rfl fun _ _ _ _ a9 b0=>nf ?_
 obtain ⟨_,_,b1,b2,b3⟩:=Inv.lend b0 0 rfl a9
 refine obk p fun _ b4 p=>?_
 refine ca okf119 rfl (rvi (c119 b1 b2 b4) fun _ _ b5 b6=>?_)
 obtain ⟨b7,b8,b9⟩:=b3 _ _ _ b5 b6
 refine nf ?_
 cases p
 exact o_p 1 rfl (o_nil (⟨b7,(((a0.t a3).t a7).t b8),(b9.del 0),hx rfl⟩))
 refine o_p 1 rfl (lt U 0 rfl (o_p 2 rfl (obk p fun Y Z p=>?_)))
 refine ca okf120 rfl (rvi (c120 U (RepV.ofBool _ _) (RepV.ofInt _ _) Z) fun _ _ a0 a1=>?_)
 refine ⟨fun _=>Cl.le a1 (T.t a0),obk p fun _ a2 p=>?_⟩
 refine ca okf174 rfl (rvb (c174 a1 (Linear.pk (⟨B.bound.c,B.bound.n,B.bound.t,B.bound.f⟩ : Linear)) a2) fun _ _ a3 a4=>?_)
 refine nf (o_p 1 rfl (obk p fun a5 a6 p=>?_))
 refine ca okf120 rfl (rvi (c120 a4 (RepV.ofBool _ _) (RepV.ofInt _ _) a6) fun _ _ a7 a8=>?_)
 refine nf ?_
 refine o_bs (l:=[P,Y,a5]) (vs:=[it P,it Y,it a5]) a8 ⟨ri,⟨ri,⟨ri,trivial⟩⟩⟩ rfl rfl rfl ⟨rfl,rfl,⟨rfl,rfl,⟨rfl,rfl,trivial⟩⟩⟩ rfl elk37 rfl rfl rfl fun _ _ _ _ a9 b0=>nf ?_
 obtain ⟨_,_,b1,b2,b3⟩:=Inv.lend b0 0 rfl a9
 refine obk p fun _ b4 p=>?_
 refine ca okf119 rfl (rvi (c119 b1 b2 b4) fun _ _ b5 b6=>?_)
 obtain ⟨b7,b8,b9⟩:=b3 _ _ _ b5 b6
 refine nf ?_
 cases p
 exact o_p 1 rfl (o_nil (⟨b7,(((a0.t a3).t a7).t b8),(b9.del 0),hx rfl⟩))
 rintro s _ ⟨X,Y,Z,_,rfl⟩
 refine nx (pg rfl (cd p rfl (fun p=>?_) fun p=>?_))
 refine pg rfl (rt (br (pr ?_)))
 cases p
 refine ⟨_,rfl,?_⟩
 rintro rfl
 have p:=v
 cases p
 exact br (pr (pr (Rt.mk ((z.t T).t Y) ((Z.del 1).del 0) ri)))
 refine wpC_skip ?_
 cases p
 exact bn (nx (rg (o_p 2 rfl (o_nil (nx ⟨_,rfl,⟨X,((z.t T).t Y),(Z.del 0),hx rfl⟩⟩)))))
 refine ex (px ?_)
 cases p
 refine ⟨_,rfl,?_⟩
 rintro rfl
 exact bh (nx (⟨_,y,rfl,z,A,hx rfl⟩))
 rintro s _ ⟨t,u,rfl,v,x,_,rfl⟩
 refine nx (sg (o_p 3 rfl (obk p fun _ y p=>?_)))
 refine ca okf120 rfl (rvi (c120 x (RepV.ofBool _ _) (RepV.ofInt _ _) y) fun _ _ z A=>?_)
 refine nf ?_
 cases p
 exact o_p 1 rfl (en (rt (Rt.mk (v.t z) (A.del 0) ri)))
theorem c207 {v0 v1 : Value} {d0 : List Threshold} {d1 : Threshold} (I : Inv w G S) {r : Int} (h0 : RepV G v0 d0) (h1 : RepV G v1 d1) (p : r2_ThresholdIndex d0 d1 = some r) :
 Calls Tryz.prog 207 #[v0, v1] w (RV (Rt G S r)) := by
 have a:=h1
 obtain rfl:=Threshold.unp h1
 refine nt (n:=19) 4 [_,_] (h:=rfl) (res1 rfl) fun _=>sg (o_box I rfl rfl rfl (cs:=[it d1.message,it d1.coef,it d1.bound.c,it d1.bound.n,it d1.bound.t,it d1.bound.f]) rfl fun b _ c=>nf (o_p 1 rfl (en (sq (pg rfl (obk p fun d f p=>cq (fun s w=>∃ g : Unit,∃ h,d = .inl g∧Le G h∧Inv w h ([(b,blk [it d1.message,it d1.coef,it d1.bound.c,it d1.bound.n,it d1.bound.t,it d1.bound.f] 293)]::S)∧Hx s []) ?_ ?_))))))
 have i:=p
 refine bk (fun (j : Int) s w=>∃ k,Le G k∧Inv w k ([(b,blk [it d1.message,it d1.coef,it d1.bound.c,it d1.bound.n,it d1.bound.t,it d1.bound.f] 293)]::S)∧Hx s [(0,v0),(3,pt b),(5,it j)]) f ⟨G,lr,c,hx rfl⟩ ?_
 clear f
 rintro j _ s _ p ⟨k,l,m,_,rfl⟩
 refine sq (sg (o_p 2 rfl ?_))
 obtain ⟨_,_,rfl,_⟩:=h0.slice
 refine o_p 2 rfl (en (cd p rfl (fun p=>?_) fun p=>?_))
 refine sn (sq (wpC_block (sq (wpC_drawI hmTryz m (Cl k S) [(0,.any),(1,.any),(2,.any),(3,.here),(4,.here),(5,.eff false)] (by kernel_rfl) fun _ n=>o_p 2 rfl (obk p fun _ o p=>o_ix (h0.m l).slice o rfl rfl rfl rfl rfl rfl rfl rfl (fun _ t=>ld n t rfl fun _ u=>?_) rfl)))))
 have v:=u
 obtain rfl:=Threshold.unp u
 refine lta n 0 rfl (cs:=[it d1.message,it d1.coef,it d1.bound.c,it d1.bound.n,it d1.bound.t,it d1.bound.f]) rfl (obk p fun _ x p=>ca okf214 rfl (rvb (c214 n v (a.m l) x) fun _ y z A=>nf (en (cd p rfl (fun p=>?_) fun p=>?_))))
 refine pg rfl (rt (br (pr ?_)))
 cases p
 refine ⟨_,rfl,?_⟩
 rintro rfl
 have p:=i
 cases p
 exact br (pr (pr (Rt.mk (l.t z) (A.del 0) ri)))
 refine wpC_skip ?_
 cases p
 exact bn (nx (rg (o_p 3 rfl (o_nil (nx ⟨_,rfl,⟨y,(l.t z),A,hx rfl⟩⟩)))))
 refine ex (px ?_)
 cases p
 refine ⟨_,rfl,?_⟩
 rintro rfl
 exact bh (nx (⟨_,k,rfl,l,m,hx rfl⟩))
 rintro s _ ⟨g,h,rfl,i,j,_,rfl⟩
 cases p
 exact nx (pg rfl (rt (Rt.mk i (j.del 0) ri)))
theorem c9 {v0 v1 : Value} {d0 : Protocol} {d1 : Property} (I : Inv w G S) {r : Bool} (h0 : RepV G v0 d0) (h1 : RepV G v1 d1) (p : l7_big d0 d1 = some r) :
 Calls Tryz.prog 9 #[v0, v1] w (RV (Rt G S r)) := by
 have a:=h0
 obtain ⟨b,c,d,f,g,h,i,rfl,_,_,_,_,_,_,_⟩:=Protocol.unp h0
 have j:=h1
 obtain ⟨k,l,m,n,rfl,_,_,_,_⟩:=Property.unp h1
 refine nt (n:=11) 4 [_,_] (h:=rfl) (res1 rfl) fun _=>sg (o_box I rfl rfl rfl (cs:=[.string d0.name,it d0.topology,b,c,d,it d0.fault,f,g,h,i]) rfl fun o _ t=>nf (o_box t rfl rfl rfl (cs:=[.string d1.name,it d1.kind,k,l,m,n]) rfl fun u _ v=>nf (o_p 1 rfl (en (sg (lta v 1 rfl (cs:=[.string d0.name,it d0.topology,b,c,d,it d0.fault,f,g,h,i]) rfl (obk p fun _ x p=>ca okf27 rfl (rvb (c27 v a x) fun _ y z A=>nf (o_p 1 rfl (obk p fun B C p=>oq (fun s w=>∃ D,Le y D∧Inv w D ([(u,blk [.string d1.name,it d1.kind,k,l,m,n] 30)]::[(o,blk [.string d0.name,it d0.topology,b,c,d,it d0.fault,f,g,h,i] 27)]::S)∧Hx s [(4,.bool B)]) ?_ ?_))))))))))
 replace p:=C
 refine sp 7 p rfl (fun p=>?_) fun p=>?_
 refine o_p 1 rfl (o_no rfl rfl ?_)
 cases p
 exact o_p 2 rfl (o_nil (⟨y,lr,A,hx rfl⟩))
 refine lta A 0 rfl (cs:=[.string d1.name,it d1.kind,k,l,m,n]) rfl (obk p fun _ F p=>ca okf28 rfl (rvb (c28 A (j.m z) F) fun _ H J K=>nf ?_))
 cases p
 exact o_p 2 rfl (o_nil (⟨H,J,K,hx rfl⟩))
 rintro s _ ⟨D,F,H,_,rfl⟩
 cases p
 exact nx (rt (Rt.mk (z.t F) ((H.del 1).del 0) rb))
theorem c13 {v0 v1 : Value} {d0 : TreeAutomaton} {d1 : TreeAutomaton} (I : Inv w G S) {r : Bool} (h0 : RepV G v0 d0) (h1 : RepV G v1 d1) (p : r7_SameAutomaton d0 d1 = some r) :
 Calls Tryz.prog 13 #[v0, v1] w (RV (Rt G S r)) := by
 have _:=h0
 obtain ⟨a,b,c,rfl,d,f,g⟩:=TreeAutomaton.unp h0
 have _:=h1
 obtain ⟨h,i,j,rfl,k,l,m⟩:=TreeAutomaton.unp h1
 refine nt (n:=78) 4 [_,_] (h:=rfl) (res1 rfl) fun _=>sg ?_
 refine o_box I rfl rfl rfl (cs:=[it d0.letters,it d0.states,a,b,c]) rfl fun n _ o=>nf ?_
 refine o_box o rfl rfl rfl (cs:=[it d1.letters,it d1.states,h,i,j]) rfl fun t _ u=>nf ?_
 refine o_p 1 rfl (en (sq (sg (o_p 1 rfl (lt u 1 rfl (o_p 1 rfl (lt u 0 rfl (o_p 2 rfl (obk p fun v x p=>?_)))))))))
 refine oq (fun s w=>Inv w G ([(t,blk [it d1.letters,it d1.states,h,i,j] 36)]::[(n,blk [it d0.letters,it d0.states,a,b,c] 36)]::S)∧Hx s [(2,pt n),(3,pt t),(36,.bool v)]) ?_ ?_
 replace p:=x
 refine sp 12 p rfl (fun p=>?_) fun p=>?_
 cases p
 exact o_p 24 rfl (o_nil (⟨u,hx rfl⟩))
 refine o_p 1 rfl (lt u 1 rfl (o_p 1 rfl (lt u 0 rfl (o_p 3 rfl (sp 19 p rfl (fun p=>?_) fun p=>?_)))))
 cases p
 exact o_p 17 rfl (o_nil (⟨u,hx rfl⟩))
 refine o_p 1 rfl (lt u 1 rfl ?_)
 obtain ⟨_,_,rfl,_⟩:=f.slice
 refine o_p 2 rfl (lt u 0 rfl ?_)
 obtain ⟨_,_,rfl,_⟩:=l.slice
 refine o_p 4 rfl (sp 28 p rfl (fun p=>?_) fun p=>?_)
 cases p
 exact o_p 8 rfl (o_nil (⟨u,hx rfl⟩))
 refine o_p 1 rfl (lt u 1 rfl ?_)
 obtain ⟨_,_,rfl,_⟩:=g.slice
 refine o_p 2 rfl (lt u 0 rfl ?_)
 obtain ⟨_,_,rfl,_⟩:=m.slice
 cases p
 exact o_p 3 rfl (o_nil (⟨u,hx rfl⟩))
 rintro s _ ⟨y,_,rfl⟩
 refine nx (cd p rfl (fun p=>?_) fun p=>?_)
 cases p
 exact pg rfl (rt (pr (Rt.mk lr ((y.del 1).del 0) rb)))
 refine sn (sq (pg rfl (obk p fun z A p=>?_)))
 refine cq (fun s w=>∃ B : Unit,z = .inl B∧Inv w G ([(t,blk [it d1.letters,it d1.states,h,i,j] 36)]::[(n,blk [it d0.letters,it d0.states,a,b,c] 36)]::S)∧Hx s [(2,pt n),(3,pt t)]) ?_ ?_
 have C:=p
 refine bk (fun (D : Int) s w=>Inv w G ([(t,blk [it d1.letters,it d1.states,h,i,j] 36)]::[(n,blk [it d0.letters,it d0.states,a,b,c] 36)]::S)∧Hx s [(2,pt n),(3,pt t),(5,it D)]) A ⟨y,hx rfl⟩ ?_
 clear A
 rintro D _ s _ p ⟨F,_,rfl⟩
 refine sq (sg (o_p 2 rfl (lt F 1 rfl ?_)))
 obtain ⟨_,_,rfl,_⟩:=f.slice
 refine o_p 2 rfl (en (cd p rfl (fun p=>?_) fun p=>?_))
 refine sn (sq ?_)
 refine wpC_block ?_
 refine sq ?_
 refine wpC_drawI hmTryz F (Cl G S) [(0,.any),(1,.here),(2,.any),(3,.any),(4,.here),(5,.any),(6,.here),(7,.any),(8,.any),(9,.here),(10,.any)] (by kernel_rfl) fun _ H=>?_
 refine o_p 1 rfl (lt H 1 rfl (o_p 1 rfl (obk p fun J K p=>ix f.slice K rfl rfl fun _ M=>ld H M rfl fun _ N=>?_)))
 have _:=N
 obtain rfl:=Leaf.unp N
 refine o_p 1 rfl (lt H 0 rfl (o_p 1 rfl (obk p fun O P p=>ix l.slice P rfl rfl fun _ Q=>ld H Q rfl fun _ R=>?_)))
 have _:=R
 obtain rfl:=Leaf.unp R
 refine o_neS (xa:=[J.letter,J.to]) (xb:=[O.letter,O.to]) ie72 rfl rfl rfl rfl rfl rfl rfl ?_ rfl
 refine en (cd p rfl (fun p=>?_) fun p=>?_)
 refine pg rfl (rt (br (pr ?_)))
 cases p
 refine ⟨_,rfl,?_⟩
 rintro rfl
 have p:=C
 cases p
 exact br (pr (pr (Rt.mk lr ((H.del 1).del 0) rb)))
 refine wpC_skip ?_
 cases p
 exact bn (nx (rg (o_p 3 rfl (o_nil (nx ⟨_,rfl,⟨H,hx rfl⟩⟩)))))
 refine ex (px ?_)
 cases p
 refine ⟨_,rfl,?_⟩
 rintro rfl
 exact bh (nx (⟨_,rfl,F,hx rfl⟩))
 rintro s _ ⟨B,rfl,C,_,rfl⟩
 refine nx (sq (pg rfl (obk p fun D F p=>?_)))
 refine cq (fun s w=>∃ H : Unit,D = .inl H∧Inv w G ([(t,blk [it d1.letters,it d1.states,h,i,j] 36)]::[(n,blk [it d0.letters,it d0.states,a,b,c] 36)]::S)∧Hx s [(2,pt n),(3,pt t)]) ?_ ?_
 have J:=p
 refine bk (fun (K : Int) s w=>Inv w G ([(t,blk [it d1.letters,it d1.states,h,i,j] 36)]::[(n,blk [it d0.letters,it d0.states,a,b,c] 36)]::S)∧Hx s [(2,pt n),(3,pt t),(6,it K)]) F ⟨C,hx rfl⟩ ?_
 clear F
 rintro K _ s _ p ⟨M,_,rfl⟩
 refine sq (sg (o_p 2 rfl (lt M 1 rfl ?_)))
 obtain ⟨_,_,rfl,_⟩:=g.slice
 refine o_p 2 rfl (en (cd p rfl (fun p=>?_) fun p=>?_))
 refine sn (sq ?_)
 refine wpC_block ?_
 refine sq ?_
 refine wpC_drawI hmTryz M (Cl G S) [(0,.any),(1,.here),(2,.any),(3,.any),(4,.here),(5,.any),(6,.here),(7,.any),(8,.any),(9,.here),(10,.any)] (by kernel_rfl) fun _ N=>?_
 refine o_p 1 rfl (lt N 1 rfl (o_p 1 rfl (obk p fun O P p=>ix g.slice P rfl rfl fun _ Q=>ld N Q rfl fun _ R=>?_)))
 have _:=R
 obtain rfl:=Branch.unp R
 refine o_p 1 rfl (lt N 0 rfl (o_p 1 rfl (obk p fun T U p=>ix m.slice U rfl rfl fun _ V=>ld N V rfl fun _ W=>?_)))
 have _:=W
 obtain rfl:=Branch.unp W
 refine o_neS (xa:=[O.letter,O.first,O.second,O.to]) (xb:=[T.letter,T.first,T.second,T.to]) ie74 rfl rfl rfl rfl rfl rfl rfl ?_ rfl
 refine en (cd p rfl (fun p=>?_) fun p=>?_)
 refine pg rfl (rt (br (pr ?_)))
 cases p
 refine ⟨_,rfl,?_⟩
 rintro rfl
 have p:=J
 cases p
 exact br (pr (pr (Rt.mk lr ((N.del 1).del 0) rb)))
 refine wpC_skip ?_
 cases p
 exact bn (nx (rg (o_p 3 rfl (o_nil (nx ⟨_,rfl,⟨N,hx rfl⟩⟩)))))
 refine ex (px ?_)
 cases p
 refine ⟨_,rfl,?_⟩
 rintro rfl
 exact bh (nx (⟨_,rfl,M,hx rfl⟩))
 rintro s _ ⟨H,rfl,J,_,rfl⟩
 refine nx (sg (o_p 1 rfl (lt J 1 rfl (o_p 1 rfl (lt J 0 rfl (obk p fun _ K p=>?_))))))
 refine ca okf36 rfl (rvb (c36 J d k K) fun _ _ M N=>?_)
 refine nf ?_
 cases p
 exact o_p 1 rfl (en (rt (Rt.mk M ((N.del 1).del 0) rb)))
theorem c69 {v0 : Value} {A0 A1 : Addr} {k0d : List Int} {k1d : List Int} {d0 : Int} (I : Inv w G S) {r : part} (h0 : RepV G v0 d0) (hk0 : PtrTo G A0 k0d) (hk1 : PtrTo G A1 k1d) (p : t_initialTrees_1 k0d k1d d0 = some r) :
 Calls Tryz.prog 69 #[v0, .pointer (some A0), .pointer (some A1)] w (RV (Rt G S r)) := by
 obtain rfl:=h0.int
 refine enterM (n:=12) (fun s w v=>RdC Tryz.prog 4 124 s w v) [_,_,_] Tryz.func69 rfl rfl rfl (resC rfl) fun _=>sg (o_alloc I rfl rfl rfl zero124 fun a _ b=>nf (en (sq (wpC_drawI hmTryz b (Cl G ([(a,blk [.bool false,.bool false] 124)]::S)) [(0,.here),(1,.any),(3,.far),(4,.any),(2,.eff true),(5,.eff false),(6,.any),(7,.eff false)] (by kernel_rfl) fun _ c=>ld c hk0 rfl fun _ d=>o_p 1 rfl ?_))))
 refine o_ldF (Cl.le c lr) hk1 rfl rfl rfl rfl rfl fun _ f=>o_p 1 rfl (obk p fun g h p=>ca okf70 rfl (rvb (c70 c d (RepV.ofInt _ _) h) fun _ _ i j=>⟨fun _=>Cl.le j i,obk p fun k l p=>ca okf70 rfl (rvb (c70 j (f.m i) (RepV.ofInt _ _) l) fun _ _ m n=>nf (o_bld (cs:=[(0,[.bool g]),(1,[.bool k])]) (res:=[.bool g,.bool k]) rfl rfl rfl zero124 (by exact ⟨rfl,rfl,⟨rfl,rfl,trivial⟩⟩) rfl rfl rfl (st n 0 rfl rfl (cs:=[.bool g,.bool k]) rfl rfl rfl fun _ o=>nf ?_) rfl))⟩))
 cases p
 exact en (rt (⟨_,RdC.mk o (.S 0 rfl) rfl rfl,Rt.mk (i.t m) (o.del 0) (part.pk (⟨g,k⟩ : part))⟩))
theorem c71 {v0 v1 v2 : Value} {A0 A1 : Addr} {k0d : List Int} {k1d : List Int} {d0 : Int} {d1 : part} {d2 : part} (I : Inv w G S) {r : part} (h0 : RepV G v0 d0) (h1 : RepV G v1 d1) (h2 : RepV G v2 d2) (hk0 : PtrTo G A0 k0d) (hk1 : PtrTo G A1 k1d) (p : t_initialTrees_2 k0d k1d d0 d1 d2 = some r) :
 Calls Tryz.prog 71 #[v0, v1, v2, .pointer (some A0), .pointer (some A1)] w (RV (Rt G S r)) := by
 obtain rfl:=h0.int
 have _:=h1
 obtain rfl:=part.unp h1
 have _:=h2
 obtain rfl:=part.unp h2
 refine enterM (n:=29) (fun s w v=>RdC Tryz.prog 8 124 s w v) [_,_,_,_,_] Tryz.func71 rfl rfl rfl (resC rfl) fun _=>sg (o_box I rfl rfl rfl (cs:=[.bool d1.inner,.bool d1.whole]) rfl fun a _ b=>nf (o_box b rfl rfl rfl (cs:=[.bool d2.inner,.bool d2.whole]) rfl fun c _ d=>nf (o_alloc d rfl rfl rfl zero124 fun f _ g=>nf (en (sg (o_p 1 rfl (lt g 2 rfl (o_p 1 rfl (obk p fun h i p=>oq (fun s w=>Inv w G ([(f,blk [.bool false,.bool false] 124)]::[(c,blk [.bool d2.inner,.bool d2.whole] 124)]::[(a,blk [.bool d1.inner,.bool d1.whole] 124)]::S)∧Hx s [(0,it d0),(3,.pointer (some A0)),(4,.pointer (some A1)),(8,pt f),(9,.bool h)]) ?_ ?_)))))))))
 replace p:=i
 refine sp 12 p rfl (fun p=>?_) fun p=>?_
 refine o_p 1 rfl (lt g 1 rfl ?_)
 cases p
 exact o_p 2 rfl (o_nil (⟨g,hx rfl⟩))
 cases p
 exact o_p 4 rfl (o_nil (⟨g,hx rfl⟩))
 rintro s _ ⟨j,_,rfl⟩
 refine nx (sg (o_p 2 rfl (obk p fun k l p=>oq (fun s w=>∃ m,Le G m∧Inv w m ([(f,blk [.bool k.1,.bool k.2] 124)]::[(c,blk [.bool d2.inner,.bool d2.whole] 124)]::[(a,blk [.bool d1.inner,.bool d1.whole] 124)]::S)∧Hx s [(8,pt f)]) ?_ ?_)))
 replace p:=l
 refine sp 17 p rfl (fun p=>?_) fun p=>?_
 refine ld j hk0 rfl fun _ n=>o_p 1 rfl (obk p fun o t p=>ca okf70 rfl (rvb (c70 j n (RepV.ofInt _ _) t) fun _ u x y=>nf (o_p 3 rfl (sp 23 p rfl (fun p=>?_) fun p=>?_))))
 refine ld y (PtrTo.mono x hk1) rfl fun _ z=>o_p 1 rfl (obk p fun A B p=>ca okf70 rfl (rvb (c70 y z (RepV.ofInt _ _) B) fun _ C D F=>nf (o_p 1 rfl (o_bld (cs:=[(0,[.bool o]),(1,[.bool A])]) (res:=[.bool o,.bool A]) rfl rfl rfl zero124 (by exact ⟨rfl,rfl,⟨rfl,rfl,trivial⟩⟩) rfl rfl rfl (st F 0 rfl rfl (cs:=[.bool o,.bool A]) rfl rfl rfl fun _ H=>nf ?_) rfl))))
 cases p
 exact o_nil (⟨C,(x.t D),H,hx rfl⟩)
 refine o_p 2 rfl (o_no rfl rfl (o_p 1 rfl (o_bld (cs:=[(0,[.bool o]),(1,[.bool false])]) (res:=[.bool o,.bool false]) rfl rfl rfl zero124 (by exact ⟨rfl,rfl,⟨rfl,rfl,trivial⟩⟩) rfl rfl rfl (st y 0 rfl rfl (cs:=[.bool o,.bool false]) rfl rfl rfl fun _ z=>nf ?_) rfl)))
 cases p
 exact o_nil (⟨u,x,z,hx rfl⟩)
 refine o_p 2 rfl (o_no rfl rfl (o_p 3 rfl (sp 23 p rfl (fun p=>?_) fun p=>?_)))
 refine ld j hk1 rfl fun _ n=>o_p 1 rfl (obk p fun o t p=>ca okf70 rfl (rvb (c70 j n (RepV.ofInt _ _) t) fun _ u x y=>nf (o_p 1 rfl (o_bld (cs:=[(0,[.bool false]),(1,[.bool o])]) (res:=[.bool false,.bool o]) rfl rfl rfl zero124 (by exact ⟨rfl,rfl,⟨rfl,rfl,trivial⟩⟩) rfl rfl rfl (st y 0 rfl rfl (cs:=[.bool false,.bool o]) rfl rfl rfl fun _ z=>nf ?_) rfl))))
 cases p
 exact o_nil (⟨u,x,z,hx rfl⟩)
 refine o_p 2 rfl (o_no rfl rfl (o_p 1 rfl (o_bld (cs:=[(0,[.bool false]),(1,[.bool false])]) (res:=[.bool false,.bool false]) rfl rfl rfl zero124 (by exact ⟨rfl,rfl,⟨rfl,rfl,trivial⟩⟩) rfl rfl rfl (st j 0 rfl rfl (cs:=[.bool false,.bool false]) rfl rfl rfl fun _ n=>nf ?_) rfl)))
 cases p
 exact o_nil (⟨G,lr,n,hx rfl⟩)
 rintro s _ ⟨m,n,o,_,rfl⟩
 cases p
 exact nx (rt (⟨_,RdC.mk o (.S 0 rfl) rfl rfl,Rt.mk n (((o.del 2).del 1).del 0) (part.pk (⟨k.1,k.2⟩ : part))⟩))
theorem c86 {v0 : Value} {A0 : Addr} {k0d : TreeAutomaton} {d0 : Int} (I : Inv w G S) {r : Bool} (h0 : RepV G v0 d0) (hk0 : PtrTo G A0 k0d) (p : t_Validate_1 k0d d0 = some r) :
 Calls Tryz.prog 86 #[v0, .pointer (some A0)] w (RV (Rt G S r)) := by
 obtain rfl:=h0.int
 refine nt (n:=12) 3 [_,_] (h:=rfl) (res1 rfl) fun _=>pg rfl (sg (o_p 3 rfl (obk p fun a b p=>oq (fun s w=>Inv w G S∧Hx s [(3,.bool a)]) ?_ ?_)))
 replace p:=b
 refine sp 6 p rfl (fun p=>?_) fun p=>?_
 refine o_p 2 rfl (ld I (show PtrTo _ _ k0d.letters from (PtrTo.fld hk0 0 rfl rfl)) rfl fun _ c=>?_)
 obtain rfl:=c.int
 cases p
 exact o_p 3 rfl (o_nil (⟨I,hx rfl⟩))
 cases p
 exact o_p 6 rfl (o_nil (⟨I,hx rfl⟩))
 rintro s _ ⟨c,_,rfl⟩
 cases p
 exact nx (rt (Rt.mk lr c rb))
theorem c87 {v0 : Value} {A0 : Addr} {k0d : TreeAutomaton} {d0 : Int} (I : Inv w G S) {r : Bool} (h0 : RepV G v0 d0) (hk0 : PtrTo G A0 k0d) (p : t_Validate_2 k0d d0 = some r) :
 Calls Tryz.prog 87 #[v0, .pointer (some A0)] w (RV (Rt G S r)) := by
 obtain rfl:=h0.int
 refine nt (n:=12) 3 [_,_] (h:=rfl) (res1 rfl) fun _=>pg rfl (sg (o_p 3 rfl (obk p fun a b p=>oq (fun s w=>Inv w G S∧Hx s [(3,.bool a)]) ?_ ?_)))
 replace p:=b
 refine sp 6 p rfl (fun p=>?_) fun p=>?_
 refine o_p 2 rfl (ld I (show PtrTo _ _ k0d.states from (PtrTo.fld hk0 1 rfl rfl)) rfl fun _ c=>?_)
 obtain rfl:=c.int
 cases p
 exact o_p 3 rfl (o_nil (⟨I,hx rfl⟩))
 cases p
 exact o_p 6 rfl (o_nil (⟨I,hx rfl⟩))
 rintro s _ ⟨c,_,rfl⟩
 cases p
 exact nx (rt (Rt.mk lr c rb))
theorem c97 {v0 v1 : Value} {d0 : TableR} {d1 : Int} (I : Inv w G S) {r : List Int} (h0 : RepV G v0 d0) (h1 : RepV G v1 d1) (p : r7_classes d0 d1 = some r) :
 Calls Tryz.prog 97 #[v0, v1] w (RV (Rt G S r)) := by
 have a:=h0
 obtain ⟨b,c,d,rfl,_,_,f⟩:=TableR.unp h0
 obtain rfl:=h1.int
 refine nt (n:=84) 4 [_,_] (h:=rfl) (res1 rfl) fun _=>sg (o_box I rfl rfl rfl (cs:=[it d0.letters,b,c,d]) rfl fun g _ h=>nf (o_p 1 rfl (en (sg (o_p 1 rfl (lt h 0 rfl ?_))))))
 obtain ⟨i,j,rfl,_⟩:=f.slice
 refine o_p 2 rfl (en (sg (o_p 1 rfl (obk p fun _ k p=>o_mks (z:=(0 : Int)) h k rfl rfl rfl elk3 zero3 (fun _=>by rfl) rfl rfl rfl rfl fun l m _ n o=>nf (o_p 1 rfl (en (sq (pg rfl (obk p fun t u p=>cq (fun s w=>∃ v x,Inv w G (x::[(g,blk [it d0.letters,b,c,(.slice i d0.accept.length j)] 98)]::S)∧OwnL 3 G x v t∧Hx s [(1,it d1),(2,pt g),(5,it (d0.accept.length : Int)),(6,v)]) ?_ ?_)))))))))
 have _:=p
 refine bk (fun (y : List Int × Int) s w=>∃ z A,Inv w G (A::[(g,blk [it d0.letters,b,c,(.slice i d0.accept.length j)] 98)]::S)∧OwnL 3 G A z y.1∧Hx s [(1,it d1),(2,pt g),(5,it (d0.accept.length : Int)),(6,z),(7,it y.2)]) u ⟨l,m,o,n,hx rfl⟩ ?_
 clear u
 rintro y _ s _ p ⟨z,A,B,C,_,rfl⟩
 refine sq (pg rfl (cd p rfl (fun p=>?_) fun p=>?_))
 refine sn (sq (wpC_block (sg (o_p 1 rfl (lt B 1 rfl (o_p 1 rfl (obk p fun _ D p=>ix f.slice D rfl rfl fun _ F=>ld B F rfl fun _ H=>?_)))))))
 obtain rfl:=H.bool
 refine en (obk p fun J K p=>cq (fun s w=>∃ M N,Inv w G (N::[(g,blk [it d0.letters,b,c,(.slice i d0.accept.length j)] 98)]::S)∧OwnL 3 G N M J∧Hx s [(1,it d1),(2,pt g),(5,it (d0.accept.length : Int)),(6,M),(7,it y.2)]) ?_ ?_)
 replace p:=K
 refine cd p rfl (fun p=>?_) fun p=>?_
 refine rg (o_p 2 rfl (obk p fun _ O p=>o_ixO C O rfl rfl rfl rfl rfl rfl rfl rfl (fun _ P=>o_stO B 0 rfl C P O ri rfl rfl rfl rfl rfl rfl rfl fun Q _ R T=>nf ?_) rfl))
 cases p
 exact o_nil (⟨z,Q,T,R,hx rfl⟩)
 refine wpC_skip ?_
 cases p
 exact ⟨z,A,B,C,hx rfl⟩
 rintro s _ ⟨M,N,O,P,_,rfl⟩
 cases p
 exact bn (nx (rg (o_p 3 rfl (o_nil (nx ⟨_,rfl,⟨M,N,O,P,hx rfl⟩⟩)))))
 refine ex (px ?_)
 cases p
 refine ⟨_,rfl,?_⟩
 rintro rfl
 exact bh (nx (⟨z,A,B,C,hx rfl⟩))
 rintro s _ ⟨v,x,y,z,_,rfl⟩
 refine nx (sq (pg rfl (obk p fun A B p=>cq (fun s w=>∃ C : List Int,∃ D F H,A = .inl C∧Le G D∧Inv w D (H::[(g,blk [it d0.letters,b,c,(.slice i d0.accept.length j)] 98)]::S)∧OwnL 3 D H F C∧Hx s [(6,F)]) ?_ ?_)))
 have J:=p
 refine bk (fun (K : List Int × Int) s w=>∃ M N O,Le G M∧Inv w M (O::[(g,blk [it d0.letters,b,c,(.slice i d0.accept.length j)] 98)]::S)∧OwnL 3 M O N K.1∧Hx s [(1,it d1),(2,pt g),(5,it (d0.accept.length : Int)),(6,N),(8,it K.2)]) B ⟨G,v,x,lr,y,z,hx rfl⟩ ?_
 clear B
 rintro K _ s _ p ⟨M,N,O,P,Q,R,_,rfl⟩
 refine sq (sg (o_p 3 rfl (obk p fun T U p=>oq (fun s w=>Inv w M (O::[(g,blk [it d0.letters,b,c,(.slice i d0.accept.length j)] 98)]::S)∧Hx s [(1,it d1),(2,pt g),(5,it (d0.accept.length : Int)),(6,N),(8,it K.2),(37,.bool T)]) ?_ ?_)))
 replace p:=U
 refine sp 33 p rfl (fun p=>?_) fun p=>?_
 cases p
 exact o_p 4 rfl (o_nil (⟨Q,hx rfl⟩))
 cases p
 exact o_p 4 rfl (o_nil (⟨Q,hx rfl⟩))
 rintro s _ ⟨V,_,rfl⟩
 refine nx (cd p rfl (fun p=>?_) fun p=>?_)
 refine sn (sq (wpC_block (sg (o_p 1 rfl (obk p fun _ W p=>o_mks (z:=(0 : Int)) V W rfl rfl rfl elk3 zero3 (fun _=>by rfl) rfl rfl rfl rfl fun X Y _ Z a0=>nf (o_p 1 rfl (en (pg rfl (sq (pg rfl ?_))))))))))
 have a1:=Inv.newNil a0
 refine obk p fun a2 a3 p=>cq (fun s w=>∃ a4 a5 a6,Le M a4∧Inv w a4 (a6::O::[(g,blk [it d0.letters,b,c,(.slice i d0.accept.length j)] 98)]::S)∧OwnL 3 a4 a6 a5 a2∧Hx s [(1,it d1),(2,pt g),(5,it (d0.accept.length : Int)),(6,N),(8,it K.2),(9,a5)]) ?_ ?_
 have _:=p
 refine bk (fun (a7 : List Int × List Int × Int) s w=>∃ a8 a9 b0 b1 b2,Le M a8∧Inv w a8 (b2::b0::O::[(g,blk [it d0.letters,b,c,(.slice i d0.accept.length j)] 98)]::S)∧OwnL 3 a8 b0 a9 a7.1∧OwnL 3 a8 b2 b1 a7.2.1∧Hx s [(1,it d1),(2,pt g),(5,it (d0.accept.length : Int)),(6,N),(8,it K.2),(9,a9),(10,b1),(11,it a7.2.2)]) a3 ⟨M,X,Y,nl,[],lr,a1,Z,(OwnL.nil (α:=Int) (G:=M) 3),hx rfl⟩ ?_
 clear a3
 rintro a7 _ s _ p ⟨a8,a9,b0,b1,b2,b3,b4,b5,b6,_,rfl⟩
 refine sq (pg rfl (cd p rfl (fun p=>?_) fun p=>?_))
 refine sn (sq (wpC_block (pg rfl (sq (obk p fun b7 b8 p=>cq (fun s w=>∃ b9,Le a8 b9∧Inv w b9 (b2::b0::O::[(g,blk [it d0.letters,b,c,(.slice i d0.accept.length j)] 98)]::S)∧Hx s [(1,it d1),(2,pt g),(5,it (d0.accept.length : Int)),(6,N),(8,it K.2),(9,a9),(10,b1),(11,it a7.2.2),(12,it b7)]) ?_ ?_)))))
 have _:=p
 refine bk (fun (e0 : Int) s w=>∃ e1,Le a8 e1∧Inv w e1 (b2::b0::O::[(g,blk [it d0.letters,b,c,(.slice i d0.accept.length j)] 98)]::S)∧Hx s [(1,it d1),(2,pt g),(5,it (d0.accept.length : Int)),(6,N),(8,it K.2),(9,a9),(10,b1),(11,it a7.2.2),(12,it e0)]) b8 ⟨a8,lr,b4,hx rfl⟩ ?_
 clear b8
 rintro e0 _ s _ p ⟨e1,e2,e3,_,rfl⟩
 refine sq (sq (wpC_drawI hmTryz e3 (Cl e1 S) [(0,.any),(1,.any),(2,.any),(3,.any),(4,.any),(5,.here),(6,.any),(7,.any),(8,.any),(9,.any),(10,.here),(11,.any),(12,.eff false),(13,.any),(14,.any)] (by kernel_rfl) fun _ e4=>o_p 2 rfl ?_))
 obtain ⟨e5,e6,rfl⟩:=OwnL.sh b6
 refine o_p 3 rfl (obk p fun e7 e8 p=>oq (fun s w=>∃ e9,Le e1 e9∧Inv w e9 (b2::b0::O::[(g,blk [it d0.letters,b,c,(.slice i d0.accept.length j)] 98)]::S)∧Hx s [(1,it d1),(2,pt g),(5,it (d0.accept.length : Int)),(6,N),(8,it K.2),(9,a9),(10,(.slice e5 a7.2.1.length e6)),(11,it a7.2.2),(12,it e0),(61,.bool e7)]) ?_ ?_)
 replace p:=e8
 refine sp 51 p rfl (fun p=>?_) fun p=>?_
 refine lta e4 3 rfl (cs:=[it d0.letters,b,c,(.slice i d0.accept.length j)]) rfl (o_p 3 rfl (obk p fun _ f0 p=>o_ixO (OwnL.mono e2 b6) f0 rfl rfl rfl rfl rfl rfl rfl rfl (fun _ f1=>o_ldO e4 0 rfl (OwnL.mono e2 b6) f1 f0 rfl rfl rfl rfl rfl fun _ f2=>?_) rfl))
 obtain rfl:=f2.int
 refine o_p 1 rfl ?_
 obtain ⟨_,f3,f4,f5,f6⟩:=Inv.lend e4 2 rfl (OwnL.mono (b3.t e2) R)
 refine obk p fun _ f7 p=>ca okf159 rfl (rvb (c159 f4 (a.m (((P.t b3).t e2).t f3)) f5 (RepV.ofInt _ _) (RepV.ofInt _ _) f7) fun _ _ f8 f9=>?_)
 obtain ⟨g0,g1,g2⟩:=f6 _ _ _ f8 f9
 refine nf ?_
 cases p
 exact o_p 2 rfl (o_nil (⟨g0,g1,(Inv.front (Inv.front (Inv.front (Inv.front g2 3 rfl) 1 rfl) 3 rfl) 3 rfl),hx rfl⟩))
 refine o_p 7 rfl (o_no rfl rfl ?_)
 cases p
 exact o_p 2 rfl (o_nil (⟨e1,lr,e4,hx rfl⟩))
 rintro s _ ⟨e9,f0,f1,_,rfl⟩
 refine nx (cd p rfl (fun p=>?_) fun p=>?_)
 refine sn (wpC_block ?_)
 cases p
 exact rg (o_p 3 rfl (o_nil (bn (nx ⟨_,rfl,⟨e9,(e2.t f0),f1,hx rfl⟩⟩))))
 refine ex (px ?_)
 cases p
 refine ⟨_,rfl,?_⟩
 rintro rfl
 exact bh (nx (⟨e9,(e2.t f0),f1,hx rfl⟩))
 rintro s _ ⟨b9,e0,e1,_,rfl⟩
 refine nx (sq (sg (o_p 2 rfl ?_)))
 obtain ⟨e2,e3,rfl⟩:=OwnL.sh b6
 refine o_p 2 rfl (en (obk p fun e4 e5 p=>cq (fun s w=>∃ e6 e7,Inv w b9 (e7::b0::O::[(g,blk [it d0.letters,b,c,(.slice i d0.accept.length j)] 98)]::S)∧OwnL 3 b9 e7 e6 e4∧Hx s [(1,it d1),(2,pt g),(5,it (d0.accept.length : Int)),(6,N),(8,it K.2),(9,a9),(10,e6),(11,it a7.2.2),(12,it b7)]) ?_ ?_))
 replace p:=e5
 refine cd p rfl (fun p=>?_) fun p=>?_
 refine rg (o_p 2 rfl (o_bs (l:=[a7.2.2]) (vs:=[it a7.2.2]) e1 ⟨ri,trivial⟩ rfl rfl rfl ⟨rfl,rfl,trivial⟩ rfl elk3 rfl rfl rfl fun _ _ _ _ e8 e9=>nf (obk p fun _ f0 p=>?_)))
 refine o_app e9 1 rfl (OwnL.mono e0 b6) (Lies.ofOwn e8 0 rfl) f0 rfl rfl rfl rfl rfl rfl elk3 rfl rfl rfl rfl fun f1 f2 _ f3 f4=>nf ?_
 cases p
 exact o_p 1 rfl (o_nil (⟨f1,f2,(f4.del 0),f3,hx rfl⟩))
 refine wpC_skip ?_
 cases p
 exact ⟨(.slice e2 a7.2.1.length e3),b2,e1,(OwnL.mono e0 b6),hx rfl⟩
 rintro s _ ⟨e6,e7,e8,e9,_,rfl⟩
 refine nx (rg (o_p 3 rfl (obk p fun _ f0 p=>o_ixO (OwnL.mono e0 b5) f0 rfl rfl rfl rfl rfl rfl rfl rfl (fun _ f1=>o_stO e8 1 rfl (OwnL.mono e0 b5) f1 f0 ri rfl rfl rfl rfl rfl rfl rfl fun f2 _ f3 f4=>nf ?_) rfl)))
 cases p
 exact o_nil (bn (nx (rg (o_p 3 rfl (o_nil (nx ⟨_,rfl,⟨b9,a9,f2,e6,e7,(b3.t e0),f4,f3,e9,hx rfl⟩⟩))))))
 refine ex (px ?_)
 cases p
 refine ⟨_,rfl,?_⟩
 rintro rfl
 exact bh (nx (⟨a8,a9,b0,b3,(b4.del 0),b5,hx rfl⟩))
 rintro s _ ⟨a4,a5,a6,a7,a8,a9,_,rfl⟩
 refine nx (sq (sg (o_p 1 rfl ?_)))
 obtain ⟨_,_,b0,b1,b2⟩:=Inv.lend a8 0 rfl a9
 refine obk p fun _ b3 p=>ca okf160 rfl (rvi (c160 b0 b1 b3) fun _ _ b4 b5=>?_)
 obtain ⟨_,b6,b7⟩:=b2 _ _ _ b4 b5
 refine nf (o_p 1 rfl ?_)
 obtain ⟨_,_,b8,b9,e0⟩:=Inv.lend b7 1 rfl (OwnL.mono (a7.t b6) R)
 refine obk p fun _ e1 p=>ca okf160 rfl (rvi (c160 b8 b9 e1) fun _ _ e2 e3=>?_)
 obtain ⟨e4,e5,e6⟩:=e0 _ _ _ e2 e3
 refine nf (o_p 1 rfl (en (cd p rfl (fun p=>?_) fun p=>?_)))
 refine pg rfl (rt (pr (br (pr ?_))))
 obtain ⟨_,e7,e8,e9⟩:=Inv.frz e6 1 rfl (OwnL.mono (b6.t e5) a9)
 cases p
 refine ⟨_,rfl,?_⟩
 rintro rfl
 have p:=J
 cases p
 exact br (pr (pr (Rt.mk ((((P.t a7).t b6).t e5).t e7) ((e8.del 1).del 0) e9)))
 cases p
 exact sn (rg (o_p 2 rfl (o_nil (bn (nx (rg (o_p 3 rfl (o_nil (nx ⟨_,rfl,⟨e4,a5,a6,(((P.t a7).t b6).t e5),(e6.del 0),(OwnL.mono (b6.t e5) a9),hx rfl⟩⟩)))))))))
 refine ex (px ?_)
 cases p
 refine ⟨_,rfl,?_⟩
 rintro rfl
 exact bh (nx (⟨_,M,N,O,rfl,P,V,R,hx rfl⟩))
 rintro s _ ⟨C,D,F,H,rfl,J,K,M,_,rfl⟩
 refine nx (pg rfl (rt ?_))
 obtain ⟨_,N,O,P⟩:=Inv.frz K 0 rfl M
 cases p
 exact Rt.mk (J.t N) (O.del 0) P
theorem c127 {v0 : Value} {A0 A1 : Addr} {k0d : List Int} {k1d : Option machine} {d0 : Int} (I : Inv w G S) {r : Int} (h0 : RepV G v0 d0) (hk0 : PtrTo G A0 k0d) (hk1 : PtrTo G A1 k1d) (p : t_machine_minimal_1 k0d k1d d0 = some r) :
 Calls Tryz.prog 127 #[v0, .pointer (some A0), .pointer (some A1)] w (RV (Rt G S r)) := by
 obtain rfl:=h0.int
 refine nt (n:=15) 4 [_,_,_] (h:=rfl) (res1 rfl) fun _=>pg rfl (sq (wpC_drawI hmTryz I (Cl G S) [(0,.here),(1,.here),(2,.any),(3,.any),(4,.here),(5,.any),(6,.any),(7,.here),(8,.any),(9,.here),(10,.any)] (by kernel_rfl) fun _ a=>ld a hk0 rfl fun _ b=>ld a hk1 rfl fun _ c=>obk p fun d f p=>?_))
 obtain ⟨_,rfl,g⟩:=RepV.ptr' c f
 refine o_p 2 rfl (ld a (show PtrTo _ _ d.leaf from (PtrTo.fld g 2 rfl rfl)) rfl fun _ h=>o_p 1 rfl (obk p fun _ i p=>ix h.slice i rfl rfl fun _ j=>ld a j rfl fun _ k=>?_))
 obtain rfl:=k.int
 refine obk p fun _ l p=>ix b.slice l rfl rfl fun _ m=>ld a m rfl fun _ n=>?_
 obtain rfl:=n.int
 cases p
 exact o_p 1 rfl (en (rt (Rt.mk lr a ri)))
theorem c128 {v0 : Value} {A0 A1 : Addr} {k0d : Option machine} {k1d : List Int} {d0 : Int} (I : Inv w G S) {r : Bool} (h0 : RepV G v0 d0) (hk0 : PtrTo G A0 k0d) (hk1 : PtrTo G A1 k1d) (p : t_machine_minimal_2 k0d k1d d0 = some r) :
 Calls Tryz.prog 128 #[v0, .pointer (some A0), .pointer (some A1)] w (RV (Rt G S r)) := by
 obtain rfl:=h0.int
 refine nt (n:=15) 4 [_,_,_] (h:=rfl) (res1 rfl) fun _=>pg rfl (sq (wpC_drawI hmTryz I (Cl G S) [(0,.here),(1,.any),(2,.any),(3,.here),(4,.here),(5,.any),(6,.any),(7,.here),(8,.any),(9,.here),(10,.any)] (by kernel_rfl) fun _ a=>ld a hk0 rfl fun _ b=>obk p fun c d p=>?_))
 obtain ⟨_,rfl,f⟩:=RepV.ptr' b d
 refine o_p 2 rfl (ld a (show PtrTo _ _ c.accept from (PtrTo.fld f 1 rfl rfl)) rfl fun _ g=>ld a hk1 rfl fun _ h=>o_p 1 rfl (obk p fun _ i p=>ix h.slice i rfl rfl fun _ j=>ld a j rfl fun _ k=>?_))
 obtain rfl:=k.int
 refine obk p fun _ l p=>ix g.slice l rfl rfl fun _ m=>ld a m rfl fun _ n=>?_
 obtain rfl:=n.bool
 cases p
 exact o_p 1 rfl (en (rt (Rt.mk lr a rb)))
theorem c129 {v0 v1 v2 : Value} {A0 A1 A2 : Addr} {k0d : List Int} {k1d : Option machine} {k2d : List Int} {d0 : Int} {d1 : Int} {d2 : Int} (I : Inv w G S) {r : Int} (h0 : RepV G v0 d0) (h1 : RepV G v1 d1) (h2 : RepV G v2 d2) (hk0 : PtrTo G A0 k0d) (hk1 : PtrTo G A1 k1d) (hk2 : PtrTo G A2 k2d) (p : t_machine_minimal_3 k0d k1d k2d d0 d1 d2 = some r) :
 Calls Tryz.prog 129 #[v0, v1, v2, .pointer (some A0), .pointer (some A1), .pointer (some A2)] w (RV (Rt G S r)) := by
 obtain rfl:=h0.int
 obtain rfl:=h1.int
 obtain rfl:=h2.int
 refine nt (n:=32) 9 [_,_,_,_,_,_] (h:=rfl) (res1 rfl) fun _=>pg rfl (sq (wpC_drawI hmTryz I (Cl G S) [(0,.here),(1,.here),(2,.any),(3,.any),(4,.here),(5,.here),(6,.any),(7,.any),(8,.here),(9,.any),(10,.here),(11,.here),(12,.any),(13,.any),(14,.here),(15,.any),(16,.here),(17,.any),(18,.any),(19,.here),(20,.any),(21,.here),(22,.any)] (by kernel_rfl) fun _ a=>ld a hk0 rfl fun _ b=>ld a hk1 rfl fun _ c=>obk p fun d f p=>?_))
 obtain ⟨_,rfl,g⟩:=RepV.ptr' c f
 refine o_p 2 rfl (ld a (show PtrTo _ _ d.branch from (PtrTo.fld g 3 rfl rfl)) rfl fun _ h=>ld a hk2 rfl fun _ i=>o_p 1 rfl (obk p fun _ j p=>ix i.slice j rfl rfl fun _ k=>ld a k rfl fun _ l=>?_))
 obtain rfl:=l.int
 refine obk p fun _ m p=>ix h.slice m rfl rfl fun _ n=>ld a n rfl fun _ o=>ld a hk2 rfl fun _ t=>o_p 1 rfl (obk p fun _ u p=>ix t.slice u rfl rfl fun _ v=>ld a v rfl fun _ x=>?_)
 obtain rfl:=x.int
 refine obk p fun _ y p=>ix o.slice y rfl rfl fun _ z=>ld a z rfl fun _ A=>o_p 1 rfl (obk p fun _ B p=>ix A.slice B rfl rfl fun _ C=>ld a C rfl fun _ D=>?_)
 obtain rfl:=D.int
 refine obk p fun _ F p=>ix b.slice F rfl rfl fun _ H=>ld a H rfl fun _ J=>?_
 obtain rfl:=J.int
 cases p
 exact o_p 1 rfl (en (rt (Rt.mk lr a ri)))
theorem c155 {bmut : Nat} {s0m : Seg} {u0m v1 : Value} {x0m : List (List Bool)} {d1 : List Bool} (I : Inv w G ([(bmut, blk [u0m] 240)] :: s0m :: S)) {r : Int × List (List Bool)} (hm0 : OwnL 96 G s0m u0m x0m) (h1 : RepV G v1 d1) (p : r7_sets_number x0m d1 = some r) :
 Calls Tryz.prog 155 #[.pointer (some ⟨bmut, 0, none⟩), v1] w (RV (fun v w' => ∃ G' u0' s0', Le G G' ∧ Inv w' G' ([(bmut, blk [u0'] 240)] :: s0' :: S) ∧ OwnL 96 G' s0' u0' r.2 ∧ RepV G' v r.1)) := by
 refine nt (n:=41) 4 [_,_] (h:=rfl) (res1 rfl) fun _=>pg rfl (sq (pg rfl (obk p fun a b p=>?_)))
 refine cq (fun s w=>∃ c : Unit,∃ d,a = .inl c∧Le G d∧Inv w d ([(bmut,blk [u0m] 240)]::s0m::S)∧Hx s [(0,pt bmut),(1,v1)]) ?_ ?_
 have f:=p
 refine bk (fun (g : Int) s w=>∃ h,Le G h∧Inv w h ([(bmut,blk [u0m] 240)]::s0m::S)∧Hx s [(0,pt bmut),(1,v1),(5,it g)]) b ⟨G,lr,I,hx rfl⟩ ?_
 clear b
 rintro g _ s _ p ⟨h,i,j,_,rfl⟩
 refine sq (sg (o_p 4 rfl (lt j 0 rfl ?_)))
 obtain ⟨k,l,rfl⟩:=OwnL.sh hm0
 refine o_p 2 rfl (en (cd p rfl (fun p=>?_) fun p=>?_))
 refine sn (sq ?_)
 refine wpC_block ?_
 refine sg (o_p 3 rfl (lt j 0 rfl (o_p 1 rfl (obk p fun _ m p=>?_))))
 refine o_ixO (OwnL.mono i hm0) m rfl rfl rfl rfl rfl rfl rfl rfl (fun _ n=>?_) rfl
 refine o_ldO j 1 rfl (OwnL.mono i hm0) n m rfl rfl rfl rfl rfl fun _ o=>?_
 refine o_p 1 rfl (obk p fun _ t p=>?_)
 refine ca okf190 rfl (rvb (c190 j o (h1.m i) t) fun _ u x y=>?_)
 refine nf (en (cd p rfl (fun p=>?_) fun p=>?_))
 refine pg rfl (rt (br (pr ?_)))
 cases p
 refine ⟨_,rfl,?_⟩
 rintro rfl
 have p:=f
 cases p
 exact br (pr (pr (⟨u,(.slice k x0m.length l),s0m,(i.t x),y,(OwnL.mono (i.t x) hm0),ri⟩)))
 refine wpC_skip ?_
 cases p
 exact bn (nx (rg (o_p 3 rfl (o_nil (nx ⟨_,rfl,⟨u,(i.t x),y,hx rfl⟩⟩)))))
 refine ex (px ?_)
 cases p
 refine ⟨_,rfl,?_⟩
 rintro rfl
 exact bh (nx (⟨_,h,rfl,i,j,hx rfl⟩))
 rintro s _ ⟨c,d,rfl,f,g,_,rfl⟩
 refine nx (sg (o_p 4 rfl (lt g 0 rfl (o_p 1 rfl ?_))))
 refine o_bs (l:=[d1]) (vs:=[v1]) g ⟨(h1.m f),trivial⟩ rfl rfl rfl ⟨rfl,rfl,trivial⟩ rfl elk96 rfl rfl rfl fun _ _ _ _ h i=>nf ?_
 refine obk p fun j k p=>?_
 refine o_app i 2 rfl (OwnL.mono f hm0) (Lies.ofOwn h 0 rfl) k rfl rfl rfl rfl rfl rfl elk96 rfl rfl rfl rfl fun l m _ n o=>nf ?_
 refine o_p 2 rfl ?_
 refine st o 1 rfl rfl (cs:=[l]) (oneC_cells (OwnL.oneC n)) (allc (OwnL.oneC n) rfl) rfl fun _ t=>nf ?_
 refine en (sg (o_p 3 rfl (lt t 1 rfl ?_)))
 obtain ⟨u,x,rfl⟩:=OwnL.sh n
 cases p
 exact o_p 3 rfl (en (rt (⟨d,(.slice u j.length x),m,f,(t.del 0),n,ri⟩)))
theorem c169 {v0 : Value} {A0 : Addr} {k0d : List U64} {d0 : Int} (I : Inv w G S) {r : U64} (h0 : RepV G v0 d0) (hk0 : PtrTo G A0 k0d) (p : t_determine_1 k0d d0 = some r) :
 Calls Tryz.prog 169 #[v0, .pointer (some A0)] w (RV (Rt G S r)) := by
 obtain rfl:=h0.int
 refine nt (n:=8) 3 [_,_] (h:=rfl) (res1 rfl) fun _=>pg rfl (sg (ld I hk0 rfl fun _ a=>o_p 1 rfl (obk p fun _ b p=>ix a.slice b rfl rfl fun _ c=>ld I c rfl fun _ d=>?_)))
 obtain rfl:=d.u64
 cases p
 exact o_p 1 rfl (en (rt (Rt.mk lr I (RepV.ofU64 _ _))))
theorem c170 {v0 v1 v2 : Value} {A0 : Addr} {k0d : List (List Branch)} {d0 : Int} {d1 : U64} {d2 : U64} (I : Inv w G S) {r : U64} (h0 : RepV G v0 d0) (h1 : RepV G v1 d1) (h2 : RepV G v2 d2) (hk0 : PtrTo G A0 k0d) (p : t_determine_2 k0d d0 d1 d2 = some r) :
 Calls Tryz.prog 170 #[v0, v1, v2, .pointer (some A0)] w (RV (Rt G S r)) := by
 obtain rfl:=h0.int
 obtain rfl:=h1.u64
 obtain rfl:=h2.u64
 refine nt (n:=41) 7 [_,_,_,_] (h:=rfl) (res1 rfl) fun _=>pg rfl (pg rfl (sq (sg (ld I hk0 rfl fun v1 h2=>o_p 1 rfl (obk p fun a b p=>ix h2.slice b rfl rfl fun _ c=>ld I c rfl fun _ d=>?_)))))
 obtain ⟨f,g,rfl,_⟩:=d.slice
 refine o_p 2 rfl (en (obk p fun h i p=>cq (fun s w=>Inv w G S∧Hx s [(8,.int .u64 h)]) ?_ ?_))
 have _:=p
 refine bk (fun (j : Int × Int) s w=>Inv w G S∧Hx s [(1,.int .u64 d1.i),(2,.int .u64 d2.i),(8,.int .u64 j.1),(14,(.slice f a.length g)),(15,it (a.length : Int)),(16,it j.2)]) i ⟨I,hx rfl⟩ ?_
 clear i
 rintro j _ s _ p ⟨k,_,rfl⟩
 refine pg rfl (sq (cd p rfl (fun p=>?_) fun p=>?_))
 refine sn (sq (wpC_block (sg (obk p fun l m p=>ix d.slice m rfl rfl fun _ n=>ld k n rfl fun _ o=>?_))))
 have _:=o
 obtain rfl:=Branch.unp o
 refine o_alloc k rfl rfl rfl zero74 fun t _ u=>nf (st u 0 rfl rfl (cs:=[it l.letter,it l.first,it l.second,it l.to]) rfl rfl rfl fun _ v=>nf (en (sg (o_p 2 rfl (lt v 0 rfl (obk p fun _ x p=>o_shr x rfl rfl rfl rfl rfl rfl (o_p 3 rfl (obk p fun y z p=>oq (fun s w=>Inv w G ([(t,blk [it l.letter,it l.first,it l.second,it l.to] 74)]::S)∧Hx s [(1,.int .u64 d1.i),(2,.int .u64 d2.i),(8,.int .u64 j.1),(10,pt t),(14,(.slice f a.length g)),(15,it (a.length : Int)),(16,it j.2),(33,.bool y)]) ?_ ?_)) rfl))))))
 replace p:=z
 refine sp 26 p rfl (fun p=>?_) fun p=>?_
 refine o_p 2 rfl (lt v 0 rfl (obk p fun _ A p=>o_shr A rfl rfl rfl rfl rfl rfl ?_ rfl))
 cases p
 exact o_p 3 rfl (o_nil (⟨v,hx rfl⟩))
 cases p
 exact o_p 7 rfl (o_nil (⟨v,hx rfl⟩))
 rintro s _ ⟨A,_,rfl⟩
 refine nx (obk p fun B C p=>cq (fun s w=>Inv w G ([(t,blk [it l.letter,it l.first,it l.second,it l.to] 74)]::S)∧Hx s [(1,.int .u64 d1.i),(2,.int .u64 d2.i),(8,.int .u64 B),(14,(.slice f a.length g)),(15,it (a.length : Int)),(16,it j.2)]) ?_ ?_)
 replace p:=C
 refine cd p rfl (fun p=>?_) fun p=>?_
 refine rg (o_p 2 rfl (lt A 0 rfl (obk p fun _ D p=>o_shl D rfl rfl rfl rfl rfl ?_ rfl)))
 cases p
 exact o_p 2 rfl (o_nil (⟨A,hx rfl⟩))
 refine wpC_skip ?_
 cases p
 exact ⟨A,hx rfl⟩
 rintro s _ ⟨D,_,rfl⟩
 cases p
 exact bn (nx (rg (o_p 2 rfl (o_nil (nx ⟨_,rfl,⟨(D.del 0),hx rfl⟩⟩)))))
 refine ex (px ?_)
 cases p
 refine ⟨_,rfl,?_⟩
 rintro rfl
 exact bh (nx (⟨k,hx rfl⟩))
 rintro s _ ⟨j,_,rfl⟩
 cases p
 exact nx (pg rfl (rt (Rt.mk lr j (RepV.ofU64 _ _))))
theorem c171 {v0 : Value} {A0 : Addr} {k0d : U64} {d0 : U64} (I : Inv w G S) {r : Bool} (h0 : RepV G v0 d0) (hk0 : PtrTo G A0 k0d) (p : t_determine_3 k0d d0 = some r) :
 Calls Tryz.prog 171 #[v0, .pointer (some A0)] w (RV (Rt G S r)) := by
 obtain rfl:=h0.u64
 refine nt (n:=8) 3 [_,_] (h:=rfl) (res1 rfl) fun _=>pg rfl (sg (o_p 1 rfl (ld I hk0 rfl fun _ a=>?_)))
 obtain rfl:=a.u64
 cases p
 exact o_p 3 rfl (en (rt (Rt.mk lr I rb)))
theorem c184 {v0 : Value} {d0 : Protocol} (I : Inv w G S) {r : List Threshold} (h0 : RepV G v0 d0) (p : r2_distinct d0 = some r) :
 Calls Tryz.prog 184 #[v0] w (RV (Rt G S r)) := by
 have _:=h0
 obtain ⟨a,b,c,d,f,g,h,rfl,_,_,_,_,_,_,i⟩:=Protocol.unp h0
 refine nt (n:=43) 2 [_] (h:=rfl) (res1 rfl) fun _=>sg (o_box I rfl rfl rfl (cs:=[.string d0.name,it d0.topology,a,b,c,it d0.fault,d,f,g,h]) rfl fun j _ k=>nf (o_p 1 rfl (en (pg rfl (sq (pg rfl ?_))))))
 have l:=Inv.newNil k
 refine obk p fun m n p=>cq (fun s w=>∃ o t u,Le G o∧Inv w o (u::[(j,blk [.string d0.name,it d0.topology,a,b,c,it d0.fault,d,f,g,h] 27)]::S)∧OwnL 293 o u t m∧Hx s [(3,t)]) ?_ ?_
 have _:=p
 refine bk (fun (v : List Threshold × Int) s w=>∃ x y z,Le G x∧Inv w x (z::[(j,blk [.string d0.name,it d0.topology,a,b,c,it d0.fault,d,f,g,h] 27)]::S)∧OwnL 293 x z y v.1∧Hx s [(1,pt j),(3,y),(4,it v.2)]) n ⟨G,nl,[],lr,l,(OwnL.nil (α:=Threshold) (G:=G) 293),hx rfl⟩ ?_
 clear n
 rintro v _ s _ p ⟨x,y,z,A,B,C,_,rfl⟩
 refine sq (sg (o_p 2 rfl (lt B 1 rfl ?_)))
 obtain ⟨D,F,rfl,_⟩:=i.slice
 refine o_p 2 rfl (en (cd p rfl (fun p=>?_) fun p=>?_))
 refine sn (sq (wpC_block (pg rfl (obk p fun H J p=>cq (fun s w=>∃ K M N,Le x K∧Inv w K (N::[(j,blk [.string d0.name,it d0.topology,a,b,c,it d0.fault,d,f,g,(.slice D d0.rules.length F)] 27)]::S)∧OwnL 293 K N M H∧Hx s [(1,pt j),(3,M),(4,it v.2)]) ?_ ?_))))
 have _:=p
 refine bk (fun (O : List Threshold × Int) s w=>∃ P Q R,Le x P∧Inv w P (R::[(j,blk [.string d0.name,it d0.topology,a,b,c,it d0.fault,d,f,g,(.slice D d0.rules.length F)] 27)]::S)∧OwnL 293 P R Q O.1∧Hx s [(1,pt j),(3,Q),(4,it v.2),(5,it O.2)]) J ⟨x,y,z,lr,B,C,hx rfl⟩ ?_
 clear J
 rintro O _ s _ p ⟨P,Q,R,T,U,V,_,rfl⟩
 refine sq (sg (o_p 2 rfl (lt U 1 rfl (o_p 1 rfl (obk p fun W X p=>o_ix (i.m (A.t T)).slice X rfl rfl rfl rfl rfl rfl rfl rfl (fun _ Y=>o_p 1 rfl (ld U (show PtrTo _ _ W.guards from (PtrTo.fld Y 7 rfl rfl)) rfl fun _ Z=>?_)) rfl)))))
 obtain ⟨_,_,rfl,_⟩:=Z.slice
 refine o_p 2 rfl (en (cd p rfl (fun p=>?_) fun p=>?_))
 refine sn (sq (wpC_block (sg (o_p 1 rfl (lt U 1 rfl (o_p 1 rfl (obk p fun a0 a1 p=>o_ix (i.m (A.t T)).slice a1 rfl rfl rfl rfl rfl rfl rfl rfl (fun _ a2=>o_p 1 rfl (ld U (show PtrTo _ _ a0.guards from (PtrTo.fld a2 7 rfl rfl)) rfl fun _ a3=>o_p 1 rfl (obk p fun a4 a5 p=>ix a3.slice a5 rfl rfl fun _ a6=>ld U a6 rfl fun _ a7=>?_))) rfl)))))))
 have a8:=a7
 obtain rfl:=Threshold.unp a7
 refine o_alloc U rfl rfl rfl zero293 fun a9 _ b0=>nf (st b0 0 rfl rfl (cs:=[it a4.message,it a4.coef,it a4.bound.c,it a4.bound.n,it a4.bound.t,it a4.bound.f]) rfl rfl rfl fun _ b1=>nf (en (sg (o_p 1 rfl (lta b1 0 rfl (cs:=[it a4.message,it a4.coef,it a4.bound.c,it a4.bound.n,it a4.bound.t,it a4.bound.f]) rfl ?_)))))
 obtain ⟨_,b2,b3,b4,b5⟩:=Inv.lend b1 1 rfl V
 refine obk p fun _ b6 p=>ca okf207 rfl (rvi (c207 b3 b4 (a8.m b2) b6) fun _ _ b7 b8=>?_)
 obtain ⟨b9,e0,e1⟩:=b5 _ _ _ b7 b8
 refine nf (o_p 1 rfl (en (obk p fun e2 e3 p=>cq (fun s w=>∃ e4 e5,Inv w b9 (e5::[(a9,blk [it a4.message,it a4.coef,it a4.bound.c,it a4.bound.n,it a4.bound.t,it a4.bound.f] 293)]::[(j,blk [.string d0.name,it d0.topology,a,b,c,it d0.fault,d,f,g,(.slice D d0.rules.length F)] 27)]::S)∧OwnL 293 b9 e5 e4 e2∧Hx s [(1,pt j),(3,e4),(4,it v.2),(5,it O.2)]) ?_ ?_)))
 replace p:=e3
 refine cd p rfl (fun p=>?_) fun p=>?_
 refine rg (o_p 1 rfl (lta e1 1 rfl (cs:=[it a4.message,it a4.coef,it a4.bound.c,it a4.bound.n,it a4.bound.t,it a4.bound.f]) rfl (o_bs (l:=[a4]) (vs:=[.agg #[it a4.message,it a4.coef,it a4.bound.c,it a4.bound.n,it a4.bound.t,it a4.bound.f]]) e1 ⟨(a8.m e0),trivial⟩ rfl rfl rfl ⟨rfl,rfl,trivial⟩ rfl elk293 rfl rfl rfl fun _ _ _ _ e6 e7=>nf (obk p fun _ e8 p=>?_))))
 refine o_app e7 1 rfl (OwnL.mono e0 V) (Lies.ofOwn e6 0 rfl) e8 rfl rfl rfl rfl rfl rfl elk293 rfl rfl rfl rfl fun e9 f0 _ f1 f2=>nf ?_
 cases p
 exact o_p 1 rfl (o_nil (⟨e9,f0,(f2.del 0),f1,hx rfl⟩))
 refine wpC_skip ?_
 cases p
 exact ⟨Q,R,e1,(OwnL.mono e0 V),hx rfl⟩
 rintro s _ ⟨e4,e5,e6,e7,_,rfl⟩
 cases p
 exact bn (nx (rg (o_p 3 rfl (o_nil (nx ⟨_,rfl,⟨b9,e4,e5,(T.t e0),(e6.del 1),e7,hx rfl⟩⟩)))))
 refine ex (px ?_)
 cases p
 refine ⟨_,rfl,?_⟩
 rintro rfl
 exact bh (nx (⟨P,Q,R,T,U,V,hx rfl⟩))
 rintro s _ ⟨K,M,N,O,P,Q,_,rfl⟩
 cases p
 exact bn (nx (rg (o_p 3 rfl (o_nil (nx ⟨_,rfl,⟨K,M,N,(A.t O),P,Q,hx rfl⟩⟩)))))
 refine ex (px ?_)
 cases p
 refine ⟨_,rfl,?_⟩
 rintro rfl
 exact bh (nx (⟨x,y,z,A,B,C,hx rfl⟩))
 rintro s _ ⟨o,t,u,v,x,y,_,rfl⟩
 refine nx (pg rfl (rt ?_))
 obtain ⟨_,z,A,B⟩:=Inv.frz x 0 rfl y
 cases p
 exact Rt.mk (v.t z) (A.del 0) B
theorem c198 {v0 : Value} {A0 : Addr} {k0d : Rule} {d0 : Rule} (I : Inv w G S) {r : Bool} (h0 : RepV G v0 d0) (hk0 : PtrTo G A0 k0d) (p : p_ruleError_1 k0d d0 = some r) :
 Calls Tryz.prog 198 #[v0, .pointer (some A0)] w (RV (Rt G S r)) := by
 have _:=h0
 obtain ⟨a,b,c,d,f,g,h,i,rfl,_,_,_,_,_,_,_,_⟩:=Rule.unp h0
 refine nt (n:=9) 3 [_,_] (h:=rfl) (res1 rfl) fun _=>sg (o_box I rfl rfl rfl (cs:=[.string d0.name,it d0.kind,it d0.frm,it d0.to,it d0.partnerFrom,it d0.partnerTo,a,b,c,d,it d0.read,it d0.write,f,it d0.at_,g,h,i,it d0.direction]) rfl fun _ _ j=>nf (o_p 1 rfl (en (sg (o_p 1 rfl (lt j 0 rfl (o_p 1 rfl (ld j (show PtrTo _ _ k0d.name from (PtrTo.fld hk0 0 rfl rfl)) rfl fun _ k=>?_))))))))
 obtain rfl:=k.str
 cases p
 exact o_p 2 rfl (en (rt (Rt.mk lr (j.del 0) rb)))
theorem c210 {v0 v1 : Value} {d0 : List Rule} {d1 : Rule → Option Bool} (I : Inv w G S) {r : Int} (h0 : RepV G v0 d0) (h1 : RepV G v1 d1) (p : sl_IndexFuncapi_Rule_api_Rule_ d0 d1 = some r) :
 Calls Tryz.prog 210 #[v0, v1] w (RV (Rt G S r)) := by
 refine nt (n:=19) 4 [_,_] (h:=rfl) (res1 rfl) fun _=>pg rfl (sq (sg (o_p 1 rfl ?_)))
 obtain ⟨a,b,rfl,_⟩:=h0.slice
 refine o_p 2 rfl (en (obk p fun c d p=>cq (fun s w=>∃ f : Unit,∃ g,c = .inl f∧Le G g∧Inv w g S∧Hx s []) ?_ ?_))
 have h:=p
 refine bk (fun (i : Int) s w=>∃ j,Le G j∧Inv w j S∧Hx s [(0,(.slice a d0.length b)),(1,v1),(7,it (d0.length : Int)),(8,it i)]) d ⟨G,lr,I,hx rfl⟩ ?_
 clear d
 rintro i _ s _ p ⟨j,k,l,_,rfl⟩
 refine pg rfl (sq (cd p rfl (fun p=>?_) fun p=>?_))
 refine sn (sq (wpC_block (pg rfl (sg (o_p 3 rfl (obk p fun _ m p=>o_ix (h0.m k).slice m rfl rfl rfl rfl rfl rfl rfl rfl (fun _ n=>ld l n rfl fun _ o=>?_) rfl))))))
 have t:=o
 obtain ⟨_,_,_,_,_,_,_,_,rfl,_,_,_,_,_,_,_,_⟩:=Rule.unp o
 refine obk p fun _ u p=>?_
 obtain ⟨_,_,_,rfl,v,x⟩:=Fn1.out h1
 refine o_callv rfl rfl rfl rfl v rfl rfl (RVm (x _ k _ _ _ _ _ l t u) ?_)
 rintro _ _ ⟨y,z,A,B⟩
 obtain rfl:=B.bool
 refine nf (en (cd p rfl (fun p=>?_) fun p=>?_))
 refine pg rfl (rt (br (pr ?_)))
 cases p
 refine ⟨_,rfl,?_⟩
 rintro rfl
 have p:=h
 cases p
 exact br (pr (pr (Rt.mk (k.t z) A ri)))
 refine wpC_skip ?_
 cases p
 exact bn (nx (rg (o_p 2 rfl (o_nil (nx ⟨_,rfl,⟨y,(k.t z),A,hx rfl⟩⟩)))))
 refine ex (px ?_)
 cases p
 refine ⟨_,rfl,?_⟩
 rintro rfl
 exact bh (nx (⟨_,j,rfl,k,l,hx rfl⟩))
 rintro s _ ⟨f,g,rfl,h,i,_,rfl⟩
 cases p
 exact nx (pg rfl (rt (Rt.mk h i ri)))
theorem c197 {v0 v1 : Value} {d0 : List Rule} {d1 : Rule → Option Bool} (I : Inv w G S) {r : Bool} (h0 : RepV G v0 d0) (h1 : RepV G v1 d1) (p : sl_ContainsFuncapi_Rule_api_Rule_ d0 d1 = some r) :
 Calls Tryz.prog 197 #[v0, v1] w (RV (Rt G S r)) := by
 refine nt (n:=9) 4 [_,_] (h:=rfl) (res1 rfl) fun _=>pg rfl (sg (o_p 2 rfl (obk p fun _ a p=>ca okf210 rfl (rvi (c210 I h0 h1 a) fun _ _ b c=>nf ?_))))
 cases p
 exact o_p 2 rfl (en (rt (Rt.mk b c rb)))
end Go.Lg
