-- Written by a program of this work, after the translation.
import Derived.Test.YtmdaaphjndjakadPReqOrdersx0
import Derived.Test.YtmdaaphjndjakadPReqOrdersx1
import Derived.Test.YtmdaaphjndjakadPReqOrdersx4
namespace Go.Proofs.Ytmdaaphjndjakad.PReqOrders
open Go.RowKit Go.Proofs.YtmdaaphjndjakadW.PrintWords Go.Proofs.YtmdaaphjndjakadW.PrintLast Go.Proofs.YtmdaaphjndjakadW.PrintMore
attribute [local go_sem] max2_int min2_int max_two min_two max_three min_three max_four min_four   -- for this text's walks alone
set_option linter.unusedVariables false
set_option linter.unusedSimpArgs false

/-! ### carousellaw12_ReqOrders: function 7 -/
mutual
def carousellaw12_ReqOrders.j0 : Nat → List Int → Bool → Option (Bool)
  | 0, _, _ => none
  | k + 1, x3, x82 => if x82 = true then (some false) else (if (x3.length : Int) = 0 then (carousellaw12_ReqOrders.j1 k x3 true) else (carousellaw12_ReqOrders.j1 k x3 (decide ((x3.length : Int) > 60))))
def carousellaw12_ReqOrders.j1 : Nat → List Int → Bool → Option (Bool)
  | 0, _, _ => none
  | k + 1, x3, x90 => if x90 = true then ((carousellaw12_Awake.f k).bind fun t256 => (if t256 = true then ((req_Best.f k ([] : List Int)).bind fun t257 => (some (t257 == 14))) else (some false))) else (carousellaw12_ReqOrders.l0 k ([] : List Int) x3 (x3.length : Int) 0)
def carousellaw12_ReqOrders.l0 : Nat → List Int → List Int → Int → Int → Option (Bool)
  | 0, _, _, _, _ => none
  | k + 1, x12, x96, x97, x98 => if x98 < x97 then (if 0 ≤ x98 then (if x98 < (x96.length : Int) then (if x12.length < 17592186044416 then (carousellaw12_ReqOrders.l0 k (x12 ++ [wrap64 (Int.tmod (rd x96 x98) 14)]) x96 x97 (wrap64 (x98 + 1))) else (none)) else (none)) else (none)) else ((req_Best.f k x12).bind fun t262 => (carousellaw12_ReqOrders.l1 k t262 false x12 (x12.length : Int) 0))
def carousellaw12_ReqOrders.l1 : Nat → Int → Bool → List Int → Int → Int → Option (Bool)
  | 0, _, _, _, _, _ => none
  | k + 1, x15, x16, x111, x112, x113 => if x113 < x112 then (if 0 ≤ x113 then (if x113 < (x111.length : Int) then ((req_Kind_Above.f (rd x111 x113) x15).bind fun t265 => (if t265 = true then (some false) else (if x16 = true then (carousellaw12_ReqOrders.l1 k x15 true x111 x112 (wrap64 (x113 + 1))) else (carousellaw12_ReqOrders.l1 k x15 ((rd x111 x113) == x15) x111 x112 (wrap64 (x113 + 1)))))) else (none)) else (none)) else ((carousellaw12_Awake.f k).bind fun t263 => (if t263 = true then (some x16) else (some false)))
end
def carousellaw12_ReqOrders.f (k : Nat) (a0 : Int) (a1 : Int) (a2 : Int) (l3 : List Int) : Option (Bool) := (req_Kind_Above.f (wrap64 (Int.tmod a0 14)) (wrap64 (Int.tmod a1 14))).bind fun t178 => (if t178 = true then ((req_Kind_Above.f (wrap64 (Int.tmod a1 14)) (wrap64 (Int.tmod a0 14))).bind fun t179 => (if t179 = true then (carousellaw12_ReqOrders.j0 k l3 true) else (if (wrap64 (Int.tmod a0 14)) = (wrap64 (Int.tmod a1 14)) then ((req_Kind_Above.f (wrap64 (Int.tmod a0 14)) (wrap64 (Int.tmod a1 14))).bind fun t180 => (if t180 = true then ((req_Kind_Above.f (wrap64 (Int.tmod a1 14)) (wrap64 (Int.tmod a2 14))).bind fun t181 => (if t181 = true then ((req_Kind_Above.f (wrap64 (Int.tmod a0 14)) (wrap64 (Int.tmod a2 14))).bind fun t182 => (if t182 = true then ((req_Kind_Above.f (wrap64 (Int.tmod a0 14)) (wrap64 (Int.tmod a0 14))).bind fun t183 => (if t183 = true then (carousellaw12_ReqOrders.j0 k l3 true) else ((req_Kind_Above.f (wrap64 (Int.tmod a0 14)) 14).bind fun t184 => (if t184 = true then ((req_Kind_Above.f 14 (wrap64 (Int.tmod a0 14))).bind fun t185 => (carousellaw12_ReqOrders.j0 k l3 t185)) else (carousellaw12_ReqOrders.j0 k l3 true))))) else (carousellaw12_ReqOrders.j0 k l3 true))) else ((req_Kind_Above.f (wrap64 (Int.tmod a0 14)) (wrap64 (Int.tmod a0 14))).bind fun t186 => (if t186 = true then (carousellaw12_ReqOrders.j0 k l3 true) else ((req_Kind_Above.f (wrap64 (Int.tmod a0 14)) 14).bind fun t187 => (if t187 = true then ((req_Kind_Above.f 14 (wrap64 (Int.tmod a0 14))).bind fun t188 => (carousellaw12_ReqOrders.j0 k l3 t188)) else (carousellaw12_ReqOrders.j0 k l3 true))))))) else ((req_Kind_Above.f (wrap64 (Int.tmod a0 14)) (wrap64 (Int.tmod a0 14))).bind fun t189 => (if t189 = true then (carousellaw12_ReqOrders.j0 k l3 true) else ((req_Kind_Above.f (wrap64 (Int.tmod a0 14)) 14).bind fun t190 => (if t190 = true then ((req_Kind_Above.f 14 (wrap64 (Int.tmod a0 14))).bind fun t191 => (carousellaw12_ReqOrders.j0 k l3 t191)) else (carousellaw12_ReqOrders.j0 k l3 true))))))) else ((req_Kind_Above.f (wrap64 (Int.tmod a0 14)) (wrap64 (Int.tmod a1 14))).bind fun t192 => (if t192 = true then ((req_Kind_Above.f (wrap64 (Int.tmod a0 14)) (wrap64 (Int.tmod a1 14))).bind fun t193 => (if t193 = true then ((req_Kind_Above.f (wrap64 (Int.tmod a1 14)) (wrap64 (Int.tmod a2 14))).bind fun t194 => (if t194 = true then ((req_Kind_Above.f (wrap64 (Int.tmod a0 14)) (wrap64 (Int.tmod a2 14))).bind fun t195 => (if t195 = true then ((req_Kind_Above.f (wrap64 (Int.tmod a0 14)) (wrap64 (Int.tmod a0 14))).bind fun t196 => (if t196 = true then (carousellaw12_ReqOrders.j0 k l3 true) else ((req_Kind_Above.f (wrap64 (Int.tmod a0 14)) 14).bind fun t197 => (if t197 = true then ((req_Kind_Above.f 14 (wrap64 (Int.tmod a0 14))).bind fun t198 => (carousellaw12_ReqOrders.j0 k l3 t198)) else (carousellaw12_ReqOrders.j0 k l3 true))))) else (carousellaw12_ReqOrders.j0 k l3 true))) else ((req_Kind_Above.f (wrap64 (Int.tmod a0 14)) (wrap64 (Int.tmod a0 14))).bind fun t199 => (if t199 = true then (carousellaw12_ReqOrders.j0 k l3 true) else ((req_Kind_Above.f (wrap64 (Int.tmod a0 14)) 14).bind fun t200 => (if t200 = true then ((req_Kind_Above.f 14 (wrap64 (Int.tmod a0 14))).bind fun t201 => (carousellaw12_ReqOrders.j0 k l3 t201)) else (carousellaw12_ReqOrders.j0 k l3 true))))))) else ((req_Kind_Above.f (wrap64 (Int.tmod a0 14)) (wrap64 (Int.tmod a0 14))).bind fun t202 => (if t202 = true then (carousellaw12_ReqOrders.j0 k l3 true) else ((req_Kind_Above.f (wrap64 (Int.tmod a0 14)) 14).bind fun t203 => (if t203 = true then ((req_Kind_Above.f 14 (wrap64 (Int.tmod a0 14))).bind fun t204 => (carousellaw12_ReqOrders.j0 k l3 t204)) else (carousellaw12_ReqOrders.j0 k l3 true))))))) else ((req_Kind_Above.f (wrap64 (Int.tmod a1 14)) (wrap64 (Int.tmod a0 14))).bind fun t205 => (if t205 = true then ((req_Kind_Above.f (wrap64 (Int.tmod a0 14)) (wrap64 (Int.tmod a1 14))).bind fun t206 => (if t206 = true then ((req_Kind_Above.f (wrap64 (Int.tmod a1 14)) (wrap64 (Int.tmod a2 14))).bind fun t207 => (if t207 = true then ((req_Kind_Above.f (wrap64 (Int.tmod a0 14)) (wrap64 (Int.tmod a2 14))).bind fun t208 => (if t208 = true then ((req_Kind_Above.f (wrap64 (Int.tmod a0 14)) (wrap64 (Int.tmod a0 14))).bind fun t209 => (if t209 = true then (carousellaw12_ReqOrders.j0 k l3 true) else ((req_Kind_Above.f (wrap64 (Int.tmod a0 14)) 14).bind fun t210 => (if t210 = true then ((req_Kind_Above.f 14 (wrap64 (Int.tmod a0 14))).bind fun t211 => (carousellaw12_ReqOrders.j0 k l3 t211)) else (carousellaw12_ReqOrders.j0 k l3 true))))) else (carousellaw12_ReqOrders.j0 k l3 true))) else ((req_Kind_Above.f (wrap64 (Int.tmod a0 14)) (wrap64 (Int.tmod a0 14))).bind fun t212 => (if t212 = true then (carousellaw12_ReqOrders.j0 k l3 true) else ((req_Kind_Above.f (wrap64 (Int.tmod a0 14)) 14).bind fun t213 => (if t213 = true then ((req_Kind_Above.f 14 (wrap64 (Int.tmod a0 14))).bind fun t214 => (carousellaw12_ReqOrders.j0 k l3 t214)) else (carousellaw12_ReqOrders.j0 k l3 true))))))) else ((req_Kind_Above.f (wrap64 (Int.tmod a0 14)) (wrap64 (Int.tmod a0 14))).bind fun t215 => (if t215 = true then (carousellaw12_ReqOrders.j0 k l3 true) else ((req_Kind_Above.f (wrap64 (Int.tmod a0 14)) 14).bind fun t216 => (if t216 = true then ((req_Kind_Above.f 14 (wrap64 (Int.tmod a0 14))).bind fun t217 => (carousellaw12_ReqOrders.j0 k l3 t217)) else (carousellaw12_ReqOrders.j0 k l3 true))))))) else (carousellaw12_ReqOrders.j0 k l3 true)))))))) else (if (wrap64 (Int.tmod a0 14)) = (wrap64 (Int.tmod a1 14)) then ((req_Kind_Above.f (wrap64 (Int.tmod a0 14)) (wrap64 (Int.tmod a1 14))).bind fun t218 => (if t218 = true then ((req_Kind_Above.f (wrap64 (Int.tmod a1 14)) (wrap64 (Int.tmod a2 14))).bind fun t219 => (if t219 = true then ((req_Kind_Above.f (wrap64 (Int.tmod a0 14)) (wrap64 (Int.tmod a2 14))).bind fun t220 => (if t220 = true then ((req_Kind_Above.f (wrap64 (Int.tmod a0 14)) (wrap64 (Int.tmod a0 14))).bind fun t221 => (if t221 = true then (carousellaw12_ReqOrders.j0 k l3 true) else ((req_Kind_Above.f (wrap64 (Int.tmod a0 14)) 14).bind fun t222 => (if t222 = true then ((req_Kind_Above.f 14 (wrap64 (Int.tmod a0 14))).bind fun t223 => (carousellaw12_ReqOrders.j0 k l3 t223)) else (carousellaw12_ReqOrders.j0 k l3 true))))) else (carousellaw12_ReqOrders.j0 k l3 true))) else ((req_Kind_Above.f (wrap64 (Int.tmod a0 14)) (wrap64 (Int.tmod a0 14))).bind fun t224 => (if t224 = true then (carousellaw12_ReqOrders.j0 k l3 true) else ((req_Kind_Above.f (wrap64 (Int.tmod a0 14)) 14).bind fun t225 => (if t225 = true then ((req_Kind_Above.f 14 (wrap64 (Int.tmod a0 14))).bind fun t226 => (carousellaw12_ReqOrders.j0 k l3 t226)) else (carousellaw12_ReqOrders.j0 k l3 true))))))) else ((req_Kind_Above.f (wrap64 (Int.tmod a0 14)) (wrap64 (Int.tmod a0 14))).bind fun t227 => (if t227 = true then (carousellaw12_ReqOrders.j0 k l3 true) else ((req_Kind_Above.f (wrap64 (Int.tmod a0 14)) 14).bind fun t228 => (if t228 = true then ((req_Kind_Above.f 14 (wrap64 (Int.tmod a0 14))).bind fun t229 => (carousellaw12_ReqOrders.j0 k l3 t229)) else (carousellaw12_ReqOrders.j0 k l3 true))))))) else ((req_Kind_Above.f (wrap64 (Int.tmod a0 14)) (wrap64 (Int.tmod a1 14))).bind fun t230 => (if t230 = true then ((req_Kind_Above.f (wrap64 (Int.tmod a0 14)) (wrap64 (Int.tmod a1 14))).bind fun t231 => (if t231 = true then ((req_Kind_Above.f (wrap64 (Int.tmod a1 14)) (wrap64 (Int.tmod a2 14))).bind fun t232 => (if t232 = true then ((req_Kind_Above.f (wrap64 (Int.tmod a0 14)) (wrap64 (Int.tmod a2 14))).bind fun t233 => (if t233 = true then ((req_Kind_Above.f (wrap64 (Int.tmod a0 14)) (wrap64 (Int.tmod a0 14))).bind fun t234 => (if t234 = true then (carousellaw12_ReqOrders.j0 k l3 true) else ((req_Kind_Above.f (wrap64 (Int.tmod a0 14)) 14).bind fun t235 => (if t235 = true then ((req_Kind_Above.f 14 (wrap64 (Int.tmod a0 14))).bind fun t236 => (carousellaw12_ReqOrders.j0 k l3 t236)) else (carousellaw12_ReqOrders.j0 k l3 true))))) else (carousellaw12_ReqOrders.j0 k l3 true))) else ((req_Kind_Above.f (wrap64 (Int.tmod a0 14)) (wrap64 (Int.tmod a0 14))).bind fun t237 => (if t237 = true then (carousellaw12_ReqOrders.j0 k l3 true) else ((req_Kind_Above.f (wrap64 (Int.tmod a0 14)) 14).bind fun t238 => (if t238 = true then ((req_Kind_Above.f 14 (wrap64 (Int.tmod a0 14))).bind fun t239 => (carousellaw12_ReqOrders.j0 k l3 t239)) else (carousellaw12_ReqOrders.j0 k l3 true))))))) else ((req_Kind_Above.f (wrap64 (Int.tmod a0 14)) (wrap64 (Int.tmod a0 14))).bind fun t240 => (if t240 = true then (carousellaw12_ReqOrders.j0 k l3 true) else ((req_Kind_Above.f (wrap64 (Int.tmod a0 14)) 14).bind fun t241 => (if t241 = true then ((req_Kind_Above.f 14 (wrap64 (Int.tmod a0 14))).bind fun t242 => (carousellaw12_ReqOrders.j0 k l3 t242)) else (carousellaw12_ReqOrders.j0 k l3 true))))))) else ((req_Kind_Above.f (wrap64 (Int.tmod a1 14)) (wrap64 (Int.tmod a0 14))).bind fun t243 => (if t243 = true then ((req_Kind_Above.f (wrap64 (Int.tmod a0 14)) (wrap64 (Int.tmod a1 14))).bind fun t244 => (if t244 = true then ((req_Kind_Above.f (wrap64 (Int.tmod a1 14)) (wrap64 (Int.tmod a2 14))).bind fun t245 => (if t245 = true then ((req_Kind_Above.f (wrap64 (Int.tmod a0 14)) (wrap64 (Int.tmod a2 14))).bind fun t246 => (if t246 = true then ((req_Kind_Above.f (wrap64 (Int.tmod a0 14)) (wrap64 (Int.tmod a0 14))).bind fun t247 => (if t247 = true then (carousellaw12_ReqOrders.j0 k l3 true) else ((req_Kind_Above.f (wrap64 (Int.tmod a0 14)) 14).bind fun t248 => (if t248 = true then ((req_Kind_Above.f 14 (wrap64 (Int.tmod a0 14))).bind fun t249 => (carousellaw12_ReqOrders.j0 k l3 t249)) else (carousellaw12_ReqOrders.j0 k l3 true))))) else (carousellaw12_ReqOrders.j0 k l3 true))) else ((req_Kind_Above.f (wrap64 (Int.tmod a0 14)) (wrap64 (Int.tmod a0 14))).bind fun t250 => (if t250 = true then (carousellaw12_ReqOrders.j0 k l3 true) else ((req_Kind_Above.f (wrap64 (Int.tmod a0 14)) 14).bind fun t251 => (if t251 = true then ((req_Kind_Above.f 14 (wrap64 (Int.tmod a0 14))).bind fun t252 => (carousellaw12_ReqOrders.j0 k l3 t252)) else (carousellaw12_ReqOrders.j0 k l3 true))))))) else ((req_Kind_Above.f (wrap64 (Int.tmod a0 14)) (wrap64 (Int.tmod a0 14))).bind fun t253 => (if t253 = true then (carousellaw12_ReqOrders.j0 k l3 true) else ((req_Kind_Above.f (wrap64 (Int.tmod a0 14)) 14).bind fun t254 => (if t254 = true then ((req_Kind_Above.f 14 (wrap64 (Int.tmod a0 14))).bind fun t255 => (carousellaw12_ReqOrders.j0 k l3 t255)) else (carousellaw12_ReqOrders.j0 k l3 true))))))) else (carousellaw12_ReqOrders.j0 k l3 true)))))))
theorem carousellaw12_ReqOrders.mono_l : ∀ k, (∀ y0 y1, LeO (carousellaw12_ReqOrders.j0 k y0 y1) (carousellaw12_ReqOrders.j0 (k + 1) y0 y1)) ∧ (∀ y0 y1, LeO (carousellaw12_ReqOrders.j1 k y0 y1) (carousellaw12_ReqOrders.j1 (k + 1) y0 y1)) ∧ (∀ y0 y1 y2 y3, LeO (carousellaw12_ReqOrders.l0 k y0 y1 y2 y3) (carousellaw12_ReqOrders.l0 (k + 1) y0 y1 y2 y3)) ∧ (∀ y0 y1 y2 y3 y4, LeO (carousellaw12_ReqOrders.l1 k y0 y1 y2 y3 y4) (carousellaw12_ReqOrders.l1 (k + 1) y0 y1 y2 y3 y4))
 | 0 => ⟨fun _ _ r h => by simp [carousellaw12_ReqOrders.j0] at h, fun _ _ r h => by simp [carousellaw12_ReqOrders.j1] at h, fun _ _ _ _ r h => by simp [carousellaw12_ReqOrders.l0] at h, fun _ _ _ _ _ r h => by simp [carousellaw12_ReqOrders.l1] at h⟩
 | k + 1 => by
  obtain ⟨ih0, ih1, ih2, ih3⟩ := carousellaw12_ReqOrders.mono_l k
  refine ⟨?_, ?_, ?_, ?_⟩
  ·
   intro y0 y1
   unfold carousellaw12_ReqOrders.j0
   repeat' first
   | (with_reducible exact ih0 _ _)
   | (with_reducible exact ih1 _ _)
   | (with_reducible exact ih2 _ _ _ _)
   | (with_reducible exact ih3 _ _ _ _ _)
   | (with_reducible exact carousellaw12_Awake.mono _)
   | (with_reducible exact req_Best.mono _ _)
   | (with_reducible exact LeO.refl _)
   | (with_reducible exact LeO.none _)
   | (with_reducible refine LeO.ite ?_ ?_)
   | (with_reducible refine LeO.bind ?_ (fun _ => ?_))
   | exact ih0 _ _
   | exact ih1 _ _
   | exact ih2 _ _ _ _
   | exact ih3 _ _ _ _ _
   | exact carousellaw12_Awake.mono _
   | exact req_Best.mono _ _
   | exact LeO.none _
   | refine LeO.ite ?_ ?_
   | refine LeO.bind ?_ (fun _ => ?_)
  ·
   intro y0 y1
   unfold carousellaw12_ReqOrders.j1
   repeat' first
   | (with_reducible exact ih0 _ _)
   | (with_reducible exact ih1 _ _)
   | (with_reducible exact ih2 _ _ _ _)
   | (with_reducible exact ih3 _ _ _ _ _)
   | (with_reducible exact carousellaw12_Awake.mono _)
   | (with_reducible exact req_Best.mono _ _)
   | (with_reducible exact LeO.refl _)
   | (with_reducible exact LeO.none _)
   | (with_reducible refine LeO.ite ?_ ?_)
   | (with_reducible refine LeO.bind ?_ (fun _ => ?_))
   | exact ih0 _ _
   | exact ih1 _ _
   | exact ih2 _ _ _ _
   | exact ih3 _ _ _ _ _
   | exact carousellaw12_Awake.mono _
   | exact req_Best.mono _ _
   | exact LeO.none _
   | refine LeO.ite ?_ ?_
   | refine LeO.bind ?_ (fun _ => ?_)
  ·
   intro y0 y1 y2 y3
   unfold carousellaw12_ReqOrders.l0
   repeat' first
   | (with_reducible exact ih0 _ _)
   | (with_reducible exact ih1 _ _)
   | (with_reducible exact ih2 _ _ _ _)
   | (with_reducible exact ih3 _ _ _ _ _)
   | (with_reducible exact carousellaw12_Awake.mono _)
   | (with_reducible exact req_Best.mono _ _)
   | (with_reducible exact LeO.refl _)
   | (with_reducible exact LeO.none _)
   | (with_reducible refine LeO.ite ?_ ?_)
   | (with_reducible refine LeO.bind ?_ (fun _ => ?_))
   | exact ih0 _ _
   | exact ih1 _ _
   | exact ih2 _ _ _ _
   | exact ih3 _ _ _ _ _
   | exact carousellaw12_Awake.mono _
   | exact req_Best.mono _ _
   | exact LeO.none _
   | refine LeO.ite ?_ ?_
   | refine LeO.bind ?_ (fun _ => ?_)
  ·
   intro y0 y1 y2 y3 y4
   unfold carousellaw12_ReqOrders.l1
   repeat' first
   | (with_reducible exact ih0 _ _)
   | (with_reducible exact ih1 _ _)
   | (with_reducible exact ih2 _ _ _ _)
   | (with_reducible exact ih3 _ _ _ _ _)
   | (with_reducible exact carousellaw12_Awake.mono _)
   | (with_reducible exact req_Best.mono _ _)
   | (with_reducible exact LeO.refl _)
   | (with_reducible exact LeO.none _)
   | (with_reducible refine LeO.ite ?_ ?_)
   | (with_reducible refine LeO.bind ?_ (fun _ => ?_))
   | exact ih0 _ _
   | exact ih1 _ _
   | exact ih2 _ _ _ _
   | exact ih3 _ _ _ _ _
   | exact carousellaw12_Awake.mono _
   | exact req_Best.mono _ _
   | exact LeO.none _
   | refine LeO.ite ?_ ?_
   | refine LeO.bind ?_ (fun _ => ?_)
theorem carousellaw12_ReqOrders.mono : ∀ a0 a1 a2 a3 k, LeO (carousellaw12_ReqOrders.f k a0 a1 a2 a3) (carousellaw12_ReqOrders.f (k + 1) a0 a1 a2 a3) := by
 intro a0 a1 a2 a3 k
 obtain ⟨ih0, ih1, ih2, ih3⟩ := carousellaw12_ReqOrders.mono_l k
 unfold carousellaw12_ReqOrders.f
 repeat' first
   | (with_reducible exact ih0 _ _)
   | (with_reducible exact ih1 _ _)
   | (with_reducible exact ih2 _ _ _ _)
   | (with_reducible exact ih3 _ _ _ _ _)
   | (with_reducible exact carousellaw12_Awake.mono _)
   | (with_reducible exact req_Best.mono _ _)
   | (with_reducible exact LeO.refl _)
   | (with_reducible exact LeO.none _)
   | (with_reducible refine LeO.ite ?_ ?_)
   | (with_reducible refine LeO.bind ?_ (fun _ => ?_))
   | exact ih0 _ _
   | exact ih1 _ _
   | exact ih2 _ _ _ _
   | exact ih3 _ _ _ _ _
   | exact carousellaw12_Awake.mono _
   | exact req_Best.mono _ _
   | exact LeO.none _
   | refine LeO.ite ?_ ?_
   | refine LeO.bind ?_ (fun _ => ?_)
set_option maxHeartbeats 8000000 in
set_option maxRecDepth 100000 in
theorem carousellaw12_ReqOrders.calls (k : Nat) (a0 : Int) (a1 : Int) (a2 : Int) (A3 : Option Addr) (c3 : Nat) (l3 : List Int) (r : Bool) (w : World) (hr3 : Kd.C (Kd.int .u8) w A3 l3.length l3) (hc3 : l3.length ≤ c3) (h : carousellaw12_ReqOrders.f k a0 a1 a2 l3 = some r) (hT : r = true) :
  Calls Try.prog 7 #[.int .u8 a0, .int .u8 a1, .int .u8 a2, .slice A3 l3.length c3] w fun e w' => e = .returned (.bool r) ∧ Below w.heap.size w w' := by
 have HR3 := Aside0.mk hr3
 have HC3 := Aside0.mk hc3
 clear hr3 hc3
 have HB := Aside0.mk (Below.refl w.heap.size w)
 have H : ((req_Kind_Above.f (wrap64 (Int.tmod a0 14)) (wrap64 (Int.tmod a1 14))).bind fun t178 => (if t178 = true then ((req_Kind_Above.f (wrap64 (Int.tmod a1 14)) (wrap64 (Int.tmod a0 14))).bind fun t179 => (if t179 = true then (carousellaw12_ReqOrders.j0 k l3 true) else (if (wrap64 (Int.tmod a0 14)) = (wrap64 (Int.tmod a1 14)) then ((req_Kind_Above.f (wrap64 (Int.tmod a0 14)) (wrap64 (Int.tmod a1 14))).bind fun t180 => (if t180 = true then ((req_Kind_Above.f (wrap64 (Int.tmod a1 14)) (wrap64 (Int.tmod a2 14))).bind fun t181 => (if t181 = true then ((req_Kind_Above.f (wrap64 (Int.tmod a0 14)) (wrap64 (Int.tmod a2 14))).bind fun t182 => (if t182 = true then ((req_Kind_Above.f (wrap64 (Int.tmod a0 14)) (wrap64 (Int.tmod a0 14))).bind fun t183 => (if t183 = true then (carousellaw12_ReqOrders.j0 k l3 true) else ((req_Kind_Above.f (wrap64 (Int.tmod a0 14)) 14).bind fun t184 => (if t184 = true then ((req_Kind_Above.f 14 (wrap64 (Int.tmod a0 14))).bind fun t185 => (carousellaw12_ReqOrders.j0 k l3 t185)) else (carousellaw12_ReqOrders.j0 k l3 true))))) else (carousellaw12_ReqOrders.j0 k l3 true))) else ((req_Kind_Above.f (wrap64 (Int.tmod a0 14)) (wrap64 (Int.tmod a0 14))).bind fun t186 => (if t186 = true then (carousellaw12_ReqOrders.j0 k l3 true) else ((req_Kind_Above.f (wrap64 (Int.tmod a0 14)) 14).bind fun t187 => (if t187 = true then ((req_Kind_Above.f 14 (wrap64 (Int.tmod a0 14))).bind fun t188 => (carousellaw12_ReqOrders.j0 k l3 t188)) else (carousellaw12_ReqOrders.j0 k l3 true))))))) else ((req_Kind_Above.f (wrap64 (Int.tmod a0 14)) (wrap64 (Int.tmod a0 14))).bind fun t189 => (if t189 = true then (carousellaw12_ReqOrders.j0 k l3 true) else ((req_Kind_Above.f (wrap64 (Int.tmod a0 14)) 14).bind fun t190 => (if t190 = true then ((req_Kind_Above.f 14 (wrap64 (Int.tmod a0 14))).bind fun t191 => (carousellaw12_ReqOrders.j0 k l3 t191)) else (carousellaw12_ReqOrders.j0 k l3 true))))))) else ((req_Kind_Above.f (wrap64 (Int.tmod a0 14)) (wrap64 (Int.tmod a1 14))).bind fun t192 => (if t192 = true then ((req_Kind_Above.f (wrap64 (Int.tmod a0 14)) (wrap64 (Int.tmod a1 14))).bind fun t193 => (if t193 = true then ((req_Kind_Above.f (wrap64 (Int.tmod a1 14)) (wrap64 (Int.tmod a2 14))).bind fun t194 => (if t194 = true then ((req_Kind_Above.f (wrap64 (Int.tmod a0 14)) (wrap64 (Int.tmod a2 14))).bind fun t195 => (if t195 = true then ((req_Kind_Above.f (wrap64 (Int.tmod a0 14)) (wrap64 (Int.tmod a0 14))).bind fun t196 => (if t196 = true then (carousellaw12_ReqOrders.j0 k l3 true) else ((req_Kind_Above.f (wrap64 (Int.tmod a0 14)) 14).bind fun t197 => (if t197 = true then ((req_Kind_Above.f 14 (wrap64 (Int.tmod a0 14))).bind fun t198 => (carousellaw12_ReqOrders.j0 k l3 t198)) else (carousellaw12_ReqOrders.j0 k l3 true))))) else (carousellaw12_ReqOrders.j0 k l3 true))) else ((req_Kind_Above.f (wrap64 (Int.tmod a0 14)) (wrap64 (Int.tmod a0 14))).bind fun t199 => (if t199 = true then (carousellaw12_ReqOrders.j0 k l3 true) else ((req_Kind_Above.f (wrap64 (Int.tmod a0 14)) 14).bind fun t200 => (if t200 = true then ((req_Kind_Above.f 14 (wrap64 (Int.tmod a0 14))).bind fun t201 => (carousellaw12_ReqOrders.j0 k l3 t201)) else (carousellaw12_ReqOrders.j0 k l3 true))))))) else ((req_Kind_Above.f (wrap64 (Int.tmod a0 14)) (wrap64 (Int.tmod a0 14))).bind fun t202 => (if t202 = true then (carousellaw12_ReqOrders.j0 k l3 true) else ((req_Kind_Above.f (wrap64 (Int.tmod a0 14)) 14).bind fun t203 => (if t203 = true then ((req_Kind_Above.f 14 (wrap64 (Int.tmod a0 14))).bind fun t204 => (carousellaw12_ReqOrders.j0 k l3 t204)) else (carousellaw12_ReqOrders.j0 k l3 true))))))) else ((req_Kind_Above.f (wrap64 (Int.tmod a1 14)) (wrap64 (Int.tmod a0 14))).bind fun t205 => (if t205 = true then ((req_Kind_Above.f (wrap64 (Int.tmod a0 14)) (wrap64 (Int.tmod a1 14))).bind fun t206 => (if t206 = true then ((req_Kind_Above.f (wrap64 (Int.tmod a1 14)) (wrap64 (Int.tmod a2 14))).bind fun t207 => (if t207 = true then ((req_Kind_Above.f (wrap64 (Int.tmod a0 14)) (wrap64 (Int.tmod a2 14))).bind fun t208 => (if t208 = true then ((req_Kind_Above.f (wrap64 (Int.tmod a0 14)) (wrap64 (Int.tmod a0 14))).bind fun t209 => (if t209 = true then (carousellaw12_ReqOrders.j0 k l3 true) else ((req_Kind_Above.f (wrap64 (Int.tmod a0 14)) 14).bind fun t210 => (if t210 = true then ((req_Kind_Above.f 14 (wrap64 (Int.tmod a0 14))).bind fun t211 => (carousellaw12_ReqOrders.j0 k l3 t211)) else (carousellaw12_ReqOrders.j0 k l3 true))))) else (carousellaw12_ReqOrders.j0 k l3 true))) else ((req_Kind_Above.f (wrap64 (Int.tmod a0 14)) (wrap64 (Int.tmod a0 14))).bind fun t212 => (if t212 = true then (carousellaw12_ReqOrders.j0 k l3 true) else ((req_Kind_Above.f (wrap64 (Int.tmod a0 14)) 14).bind fun t213 => (if t213 = true then ((req_Kind_Above.f 14 (wrap64 (Int.tmod a0 14))).bind fun t214 => (carousellaw12_ReqOrders.j0 k l3 t214)) else (carousellaw12_ReqOrders.j0 k l3 true))))))) else ((req_Kind_Above.f (wrap64 (Int.tmod a0 14)) (wrap64 (Int.tmod a0 14))).bind fun t215 => (if t215 = true then (carousellaw12_ReqOrders.j0 k l3 true) else ((req_Kind_Above.f (wrap64 (Int.tmod a0 14)) 14).bind fun t216 => (if t216 = true then ((req_Kind_Above.f 14 (wrap64 (Int.tmod a0 14))).bind fun t217 => (carousellaw12_ReqOrders.j0 k l3 t217)) else (carousellaw12_ReqOrders.j0 k l3 true))))))) else (carousellaw12_ReqOrders.j0 k l3 true)))))))) else (if (wrap64 (Int.tmod a0 14)) = (wrap64 (Int.tmod a1 14)) then ((req_Kind_Above.f (wrap64 (Int.tmod a0 14)) (wrap64 (Int.tmod a1 14))).bind fun t218 => (if t218 = true then ((req_Kind_Above.f (wrap64 (Int.tmod a1 14)) (wrap64 (Int.tmod a2 14))).bind fun t219 => (if t219 = true then ((req_Kind_Above.f (wrap64 (Int.tmod a0 14)) (wrap64 (Int.tmod a2 14))).bind fun t220 => (if t220 = true then ((req_Kind_Above.f (wrap64 (Int.tmod a0 14)) (wrap64 (Int.tmod a0 14))).bind fun t221 => (if t221 = true then (carousellaw12_ReqOrders.j0 k l3 true) else ((req_Kind_Above.f (wrap64 (Int.tmod a0 14)) 14).bind fun t222 => (if t222 = true then ((req_Kind_Above.f 14 (wrap64 (Int.tmod a0 14))).bind fun t223 => (carousellaw12_ReqOrders.j0 k l3 t223)) else (carousellaw12_ReqOrders.j0 k l3 true))))) else (carousellaw12_ReqOrders.j0 k l3 true))) else ((req_Kind_Above.f (wrap64 (Int.tmod a0 14)) (wrap64 (Int.tmod a0 14))).bind fun t224 => (if t224 = true then (carousellaw12_ReqOrders.j0 k l3 true) else ((req_Kind_Above.f (wrap64 (Int.tmod a0 14)) 14).bind fun t225 => (if t225 = true then ((req_Kind_Above.f 14 (wrap64 (Int.tmod a0 14))).bind fun t226 => (carousellaw12_ReqOrders.j0 k l3 t226)) else (carousellaw12_ReqOrders.j0 k l3 true))))))) else ((req_Kind_Above.f (wrap64 (Int.tmod a0 14)) (wrap64 (Int.tmod a0 14))).bind fun t227 => (if t227 = true then (carousellaw12_ReqOrders.j0 k l3 true) else ((req_Kind_Above.f (wrap64 (Int.tmod a0 14)) 14).bind fun t228 => (if t228 = true then ((req_Kind_Above.f 14 (wrap64 (Int.tmod a0 14))).bind fun t229 => (carousellaw12_ReqOrders.j0 k l3 t229)) else (carousellaw12_ReqOrders.j0 k l3 true))))))) else ((req_Kind_Above.f (wrap64 (Int.tmod a0 14)) (wrap64 (Int.tmod a1 14))).bind fun t230 => (if t230 = true then ((req_Kind_Above.f (wrap64 (Int.tmod a0 14)) (wrap64 (Int.tmod a1 14))).bind fun t231 => (if t231 = true then ((req_Kind_Above.f (wrap64 (Int.tmod a1 14)) (wrap64 (Int.tmod a2 14))).bind fun t232 => (if t232 = true then ((req_Kind_Above.f (wrap64 (Int.tmod a0 14)) (wrap64 (Int.tmod a2 14))).bind fun t233 => (if t233 = true then ((req_Kind_Above.f (wrap64 (Int.tmod a0 14)) (wrap64 (Int.tmod a0 14))).bind fun t234 => (if t234 = true then (carousellaw12_ReqOrders.j0 k l3 true) else ((req_Kind_Above.f (wrap64 (Int.tmod a0 14)) 14).bind fun t235 => (if t235 = true then ((req_Kind_Above.f 14 (wrap64 (Int.tmod a0 14))).bind fun t236 => (carousellaw12_ReqOrders.j0 k l3 t236)) else (carousellaw12_ReqOrders.j0 k l3 true))))) else (carousellaw12_ReqOrders.j0 k l3 true))) else ((req_Kind_Above.f (wrap64 (Int.tmod a0 14)) (wrap64 (Int.tmod a0 14))).bind fun t237 => (if t237 = true then (carousellaw12_ReqOrders.j0 k l3 true) else ((req_Kind_Above.f (wrap64 (Int.tmod a0 14)) 14).bind fun t238 => (if t238 = true then ((req_Kind_Above.f 14 (wrap64 (Int.tmod a0 14))).bind fun t239 => (carousellaw12_ReqOrders.j0 k l3 t239)) else (carousellaw12_ReqOrders.j0 k l3 true))))))) else ((req_Kind_Above.f (wrap64 (Int.tmod a0 14)) (wrap64 (Int.tmod a0 14))).bind fun t240 => (if t240 = true then (carousellaw12_ReqOrders.j0 k l3 true) else ((req_Kind_Above.f (wrap64 (Int.tmod a0 14)) 14).bind fun t241 => (if t241 = true then ((req_Kind_Above.f 14 (wrap64 (Int.tmod a0 14))).bind fun t242 => (carousellaw12_ReqOrders.j0 k l3 t242)) else (carousellaw12_ReqOrders.j0 k l3 true))))))) else ((req_Kind_Above.f (wrap64 (Int.tmod a1 14)) (wrap64 (Int.tmod a0 14))).bind fun t243 => (if t243 = true then ((req_Kind_Above.f (wrap64 (Int.tmod a0 14)) (wrap64 (Int.tmod a1 14))).bind fun t244 => (if t244 = true then ((req_Kind_Above.f (wrap64 (Int.tmod a1 14)) (wrap64 (Int.tmod a2 14))).bind fun t245 => (if t245 = true then ((req_Kind_Above.f (wrap64 (Int.tmod a0 14)) (wrap64 (Int.tmod a2 14))).bind fun t246 => (if t246 = true then ((req_Kind_Above.f (wrap64 (Int.tmod a0 14)) (wrap64 (Int.tmod a0 14))).bind fun t247 => (if t247 = true then (carousellaw12_ReqOrders.j0 k l3 true) else ((req_Kind_Above.f (wrap64 (Int.tmod a0 14)) 14).bind fun t248 => (if t248 = true then ((req_Kind_Above.f 14 (wrap64 (Int.tmod a0 14))).bind fun t249 => (carousellaw12_ReqOrders.j0 k l3 t249)) else (carousellaw12_ReqOrders.j0 k l3 true))))) else (carousellaw12_ReqOrders.j0 k l3 true))) else ((req_Kind_Above.f (wrap64 (Int.tmod a0 14)) (wrap64 (Int.tmod a0 14))).bind fun t250 => (if t250 = true then (carousellaw12_ReqOrders.j0 k l3 true) else ((req_Kind_Above.f (wrap64 (Int.tmod a0 14)) 14).bind fun t251 => (if t251 = true then ((req_Kind_Above.f 14 (wrap64 (Int.tmod a0 14))).bind fun t252 => (carousellaw12_ReqOrders.j0 k l3 t252)) else (carousellaw12_ReqOrders.j0 k l3 true))))))) else ((req_Kind_Above.f (wrap64 (Int.tmod a0 14)) (wrap64 (Int.tmod a0 14))).bind fun t253 => (if t253 = true then (carousellaw12_ReqOrders.j0 k l3 true) else ((req_Kind_Above.f (wrap64 (Int.tmod a0 14)) 14).bind fun t254 => (if t254 = true then ((req_Kind_Above.f 14 (wrap64 (Int.tmod a0 14))).bind fun t255 => (carousellaw12_ReqOrders.j0 k l3 t255)) else (carousellaw12_ReqOrders.j0 k l3 true))))))) else (carousellaw12_ReqOrders.j0 k l3 true)))))))) = some r := h
 clear h
 have HC5 := Aside0.mk H
 clear H
 go_enter Try.func7, Try.ntmps7
 go_upto_region 2 with (fail)
 go_cut [82] (fun v82 wc => ∃ (kq : Nat) (x82_4 : Bool), v82 = .bool x82_4 ∧ Aside0 (carousellaw12_ReqOrders.j0 kq l3 x82_4 = some r) ∧ Aside0 (kq ≤ k) ∧ Aside0 (Below w.heap.size w wc))
 case first =>
  have H := HC5.out
  clear HC5
  replace H := Option.bind_eq_some_iff.mp H
  obtain ⟨t178, A60, H⟩ := H
  try dsimp only at H
  have A6 := Aside0.mk A60
  clear A60
  by_cases c7 : t178 = true
  ·
   subst c7
   have H1 : ((req_Kind_Above.f (wrap64 (Int.tmod a1 14)) (wrap64 (Int.tmod a0 14))).bind fun t179 => (if t179 = true then (carousellaw12_ReqOrders.j0 k l3 true) else (if (wrap64 (Int.tmod a0 14)) = (wrap64 (Int.tmod a1 14)) then ((req_Kind_Above.f (wrap64 (Int.tmod a0 14)) (wrap64 (Int.tmod a1 14))).bind fun t180 => (if t180 = true then ((req_Kind_Above.f (wrap64 (Int.tmod a1 14)) (wrap64 (Int.tmod a2 14))).bind fun t181 => (if t181 = true then ((req_Kind_Above.f (wrap64 (Int.tmod a0 14)) (wrap64 (Int.tmod a2 14))).bind fun t182 => (if t182 = true then ((req_Kind_Above.f (wrap64 (Int.tmod a0 14)) (wrap64 (Int.tmod a0 14))).bind fun t183 => (if t183 = true then (carousellaw12_ReqOrders.j0 k l3 true) else ((req_Kind_Above.f (wrap64 (Int.tmod a0 14)) 14).bind fun t184 => (if t184 = true then ((req_Kind_Above.f 14 (wrap64 (Int.tmod a0 14))).bind fun t185 => (carousellaw12_ReqOrders.j0 k l3 t185)) else (carousellaw12_ReqOrders.j0 k l3 true))))) else (carousellaw12_ReqOrders.j0 k l3 true))) else ((req_Kind_Above.f (wrap64 (Int.tmod a0 14)) (wrap64 (Int.tmod a0 14))).bind fun t186 => (if t186 = true then (carousellaw12_ReqOrders.j0 k l3 true) else ((req_Kind_Above.f (wrap64 (Int.tmod a0 14)) 14).bind fun t187 => (if t187 = true then ((req_Kind_Above.f 14 (wrap64 (Int.tmod a0 14))).bind fun t188 => (carousellaw12_ReqOrders.j0 k l3 t188)) else (carousellaw12_ReqOrders.j0 k l3 true))))))) else ((req_Kind_Above.f (wrap64 (Int.tmod a0 14)) (wrap64 (Int.tmod a0 14))).bind fun t189 => (if t189 = true then (carousellaw12_ReqOrders.j0 k l3 true) else ((req_Kind_Above.f (wrap64 (Int.tmod a0 14)) 14).bind fun t190 => (if t190 = true then ((req_Kind_Above.f 14 (wrap64 (Int.tmod a0 14))).bind fun t191 => (carousellaw12_ReqOrders.j0 k l3 t191)) else (carousellaw12_ReqOrders.j0 k l3 true))))))) else ((req_Kind_Above.f (wrap64 (Int.tmod a0 14)) (wrap64 (Int.tmod a1 14))).bind fun t192 => (if t192 = true then ((req_Kind_Above.f (wrap64 (Int.tmod a0 14)) (wrap64 (Int.tmod a1 14))).bind fun t193 => (if t193 = true then ((req_Kind_Above.f (wrap64 (Int.tmod a1 14)) (wrap64 (Int.tmod a2 14))).bind fun t194 => (if t194 = true then ((req_Kind_Above.f (wrap64 (Int.tmod a0 14)) (wrap64 (Int.tmod a2 14))).bind fun t195 => (if t195 = true then ((req_Kind_Above.f (wrap64 (Int.tmod a0 14)) (wrap64 (Int.tmod a0 14))).bind fun t196 => (if t196 = true then (carousellaw12_ReqOrders.j0 k l3 true) else ((req_Kind_Above.f (wrap64 (Int.tmod a0 14)) 14).bind fun t197 => (if t197 = true then ((req_Kind_Above.f 14 (wrap64 (Int.tmod a0 14))).bind fun t198 => (carousellaw12_ReqOrders.j0 k l3 t198)) else (carousellaw12_ReqOrders.j0 k l3 true))))) else (carousellaw12_ReqOrders.j0 k l3 true))) else ((req_Kind_Above.f (wrap64 (Int.tmod a0 14)) (wrap64 (Int.tmod a0 14))).bind fun t199 => (if t199 = true then (carousellaw12_ReqOrders.j0 k l3 true) else ((req_Kind_Above.f (wrap64 (Int.tmod a0 14)) 14).bind fun t200 => (if t200 = true then ((req_Kind_Above.f 14 (wrap64 (Int.tmod a0 14))).bind fun t201 => (carousellaw12_ReqOrders.j0 k l3 t201)) else (carousellaw12_ReqOrders.j0 k l3 true))))))) else ((req_Kind_Above.f (wrap64 (Int.tmod a0 14)) (wrap64 (Int.tmod a0 14))).bind fun t202 => (if t202 = true then (carousellaw12_ReqOrders.j0 k l3 true) else ((req_Kind_Above.f (wrap64 (Int.tmod a0 14)) 14).bind fun t203 => (if t203 = true then ((req_Kind_Above.f 14 (wrap64 (Int.tmod a0 14))).bind fun t204 => (carousellaw12_ReqOrders.j0 k l3 t204)) else (carousellaw12_ReqOrders.j0 k l3 true))))))) else ((req_Kind_Above.f (wrap64 (Int.tmod a1 14)) (wrap64 (Int.tmod a0 14))).bind fun t205 => (if t205 = true then ((req_Kind_Above.f (wrap64 (Int.tmod a0 14)) (wrap64 (Int.tmod a1 14))).bind fun t206 => (if t206 = true then ((req_Kind_Above.f (wrap64 (Int.tmod a1 14)) (wrap64 (Int.tmod a2 14))).bind fun t207 => (if t207 = true then ((req_Kind_Above.f (wrap64 (Int.tmod a0 14)) (wrap64 (Int.tmod a2 14))).bind fun t208 => (if t208 = true then ((req_Kind_Above.f (wrap64 (Int.tmod a0 14)) (wrap64 (Int.tmod a0 14))).bind fun t209 => (if t209 = true then (carousellaw12_ReqOrders.j0 k l3 true) else ((req_Kind_Above.f (wrap64 (Int.tmod a0 14)) 14).bind fun t210 => (if t210 = true then ((req_Kind_Above.f 14 (wrap64 (Int.tmod a0 14))).bind fun t211 => (carousellaw12_ReqOrders.j0 k l3 t211)) else (carousellaw12_ReqOrders.j0 k l3 true))))) else (carousellaw12_ReqOrders.j0 k l3 true))) else ((req_Kind_Above.f (wrap64 (Int.tmod a0 14)) (wrap64 (Int.tmod a0 14))).bind fun t212 => (if t212 = true then (carousellaw12_ReqOrders.j0 k l3 true) else ((req_Kind_Above.f (wrap64 (Int.tmod a0 14)) 14).bind fun t213 => (if t213 = true then ((req_Kind_Above.f 14 (wrap64 (Int.tmod a0 14))).bind fun t214 => (carousellaw12_ReqOrders.j0 k l3 t214)) else (carousellaw12_ReqOrders.j0 k l3 true))))))) else ((req_Kind_Above.f (wrap64 (Int.tmod a0 14)) (wrap64 (Int.tmod a0 14))).bind fun t215 => (if t215 = true then (carousellaw12_ReqOrders.j0 k l3 true) else ((req_Kind_Above.f (wrap64 (Int.tmod a0 14)) 14).bind fun t216 => (if t216 = true then ((req_Kind_Above.f 14 (wrap64 (Int.tmod a0 14))).bind fun t217 => (carousellaw12_ReqOrders.j0 k l3 t217)) else (carousellaw12_ReqOrders.j0 k l3 true))))))) else (carousellaw12_ReqOrders.j0 k l3 true)))))))) = some r := by rw [if_pos rfl] at H; exact H
   clear H
   have H := H1
   clear H1
   replace H := Option.bind_eq_some_iff.mp H
   obtain ⟨t179, A80, H⟩ := H
   try dsimp only at H
   have A8 := Aside0.mk A80
   clear A80
   by_cases c9 : t179 = true
   ·
    subst c9
    have H1 : (carousellaw12_ReqOrders.j0 k l3 true) = some r := by rw [if_pos rfl] at H; exact H
    clear H
    have H := H1
    clear H1
    have H' := Aside0.mk H
    clear H
    go_wp2_with (first | ((with_reducible refine gate_callee (f := 22) rfl ?_); refine goesL_ (some 30) rfl rfl Try.func22 (by kernel_rfl) rfl #[.int .i64 (wrap64 (Int.tmod a0 14)), .int .i64 (wrap64 (Int.tmod a1 14))] rfl (by (try simp only [List.map_toArray, List.map_cons, List.map_nil]); first | done | rfl | (simp only [List.length_drop, List.length_take]; rfl)) ?_; (with_reducible refine (req_Kind_Above.calls (wrap64 (Int.tmod a0 14)) (wrap64 (Int.tmod a1 14)) true _ A6.out).mono ?_); rintro e w' ⟨rfl, ⟨nd, rfl⟩⟩; refine ⟨_, rfl, ?_⟩) | (go_at_call 22; (with_reducible refine (req_Kind_Above.calls (wrap64 (Int.tmod a1 14)) (wrap64 (Int.tmod a0 14)) true _ A8.out).mono ?_); rintro e w' ⟨rfl, ⟨nd, rfl⟩⟩))
    go_meet
    case rel => exact ⟨_, (true), (by first | rfl | (simp; done) | (simp [*]; done)), H', ⟨by first | omega | exact Nat.le_refl _⟩, ⟨by repeat (first | (with_reducible first | exact HB.out | apply below_alloc | apply pw_below_drewN | apply below_drew1) | exact HB.out)⟩⟩
   ·
    replace c9 := Bool.eq_false_iff.mpr c9
    subst c9
    have H1 : (if (wrap64 (Int.tmod a0 14)) = (wrap64 (Int.tmod a1 14)) then ((req_Kind_Above.f (wrap64 (Int.tmod a0 14)) (wrap64 (Int.tmod a1 14))).bind fun t180 => (if t180 = true then ((req_Kind_Above.f (wrap64 (Int.tmod a1 14)) (wrap64 (Int.tmod a2 14))).bind fun t181 => (if t181 = true then ((req_Kind_Above.f (wrap64 (Int.tmod a0 14)) (wrap64 (Int.tmod a2 14))).bind fun t182 => (if t182 = true then ((req_Kind_Above.f (wrap64 (Int.tmod a0 14)) (wrap64 (Int.tmod a0 14))).bind fun t183 => (if t183 = true then (carousellaw12_ReqOrders.j0 k l3 true) else ((req_Kind_Above.f (wrap64 (Int.tmod a0 14)) 14).bind fun t184 => (if t184 = true then ((req_Kind_Above.f 14 (wrap64 (Int.tmod a0 14))).bind fun t185 => (carousellaw12_ReqOrders.j0 k l3 t185)) else (carousellaw12_ReqOrders.j0 k l3 true))))) else (carousellaw12_ReqOrders.j0 k l3 true))) else ((req_Kind_Above.f (wrap64 (Int.tmod a0 14)) (wrap64 (Int.tmod a0 14))).bind fun t186 => (if t186 = true then (carousellaw12_ReqOrders.j0 k l3 true) else ((req_Kind_Above.f (wrap64 (Int.tmod a0 14)) 14).bind fun t187 => (if t187 = true then ((req_Kind_Above.f 14 (wrap64 (Int.tmod a0 14))).bind fun t188 => (carousellaw12_ReqOrders.j0 k l3 t188)) else (carousellaw12_ReqOrders.j0 k l3 true))))))) else ((req_Kind_Above.f (wrap64 (Int.tmod a0 14)) (wrap64 (Int.tmod a0 14))).bind fun t189 => (if t189 = true then (carousellaw12_ReqOrders.j0 k l3 true) else ((req_Kind_Above.f (wrap64 (Int.tmod a0 14)) 14).bind fun t190 => (if t190 = true then ((req_Kind_Above.f 14 (wrap64 (Int.tmod a0 14))).bind fun t191 => (carousellaw12_ReqOrders.j0 k l3 t191)) else (carousellaw12_ReqOrders.j0 k l3 true))))))) else ((req_Kind_Above.f (wrap64 (Int.tmod a0 14)) (wrap64 (Int.tmod a1 14))).bind fun t192 => (if t192 = true then ((req_Kind_Above.f (wrap64 (Int.tmod a0 14)) (wrap64 (Int.tmod a1 14))).bind fun t193 => (if t193 = true then ((req_Kind_Above.f (wrap64 (Int.tmod a1 14)) (wrap64 (Int.tmod a2 14))).bind fun t194 => (if t194 = true then ((req_Kind_Above.f (wrap64 (Int.tmod a0 14)) (wrap64 (Int.tmod a2 14))).bind fun t195 => (if t195 = true then ((req_Kind_Above.f (wrap64 (Int.tmod a0 14)) (wrap64 (Int.tmod a0 14))).bind fun t196 => (if t196 = true then (carousellaw12_ReqOrders.j0 k l3 true) else ((req_Kind_Above.f (wrap64 (Int.tmod a0 14)) 14).bind fun t197 => (if t197 = true then ((req_Kind_Above.f 14 (wrap64 (Int.tmod a0 14))).bind fun t198 => (carousellaw12_ReqOrders.j0 k l3 t198)) else (carousellaw12_ReqOrders.j0 k l3 true))))) else (carousellaw12_ReqOrders.j0 k l3 true))) else ((req_Kind_Above.f (wrap64 (Int.tmod a0 14)) (wrap64 (Int.tmod a0 14))).bind fun t199 => (if t199 = true then (carousellaw12_ReqOrders.j0 k l3 true) else ((req_Kind_Above.f (wrap64 (Int.tmod a0 14)) 14).bind fun t200 => (if t200 = true then ((req_Kind_Above.f 14 (wrap64 (Int.tmod a0 14))).bind fun t201 => (carousellaw12_ReqOrders.j0 k l3 t201)) else (carousellaw12_ReqOrders.j0 k l3 true))))))) else ((req_Kind_Above.f (wrap64 (Int.tmod a0 14)) (wrap64 (Int.tmod a0 14))).bind fun t202 => (if t202 = true then (carousellaw12_ReqOrders.j0 k l3 true) else ((req_Kind_Above.f (wrap64 (Int.tmod a0 14)) 14).bind fun t203 => (if t203 = true then ((req_Kind_Above.f 14 (wrap64 (Int.tmod a0 14))).bind fun t204 => (carousellaw12_ReqOrders.j0 k l3 t204)) else (carousellaw12_ReqOrders.j0 k l3 true))))))) else ((req_Kind_Above.f (wrap64 (Int.tmod a1 14)) (wrap64 (Int.tmod a0 14))).bind fun t205 => (if t205 = true then ((req_Kind_Above.f (wrap64 (Int.tmod a0 14)) (wrap64 (Int.tmod a1 14))).bind fun t206 => (if t206 = true then ((req_Kind_Above.f (wrap64 (Int.tmod a1 14)) (wrap64 (Int.tmod a2 14))).bind fun t207 => (if t207 = true then ((req_Kind_Above.f (wrap64 (Int.tmod a0 14)) (wrap64 (Int.tmod a2 14))).bind fun t208 => (if t208 = true then ((req_Kind_Above.f (wrap64 (Int.tmod a0 14)) (wrap64 (Int.tmod a0 14))).bind fun t209 => (if t209 = true then (carousellaw12_ReqOrders.j0 k l3 true) else ((req_Kind_Above.f (wrap64 (Int.tmod a0 14)) 14).bind fun t210 => (if t210 = true then ((req_Kind_Above.f 14 (wrap64 (Int.tmod a0 14))).bind fun t211 => (carousellaw12_ReqOrders.j0 k l3 t211)) else (carousellaw12_ReqOrders.j0 k l3 true))))) else (carousellaw12_ReqOrders.j0 k l3 true))) else ((req_Kind_Above.f (wrap64 (Int.tmod a0 14)) (wrap64 (Int.tmod a0 14))).bind fun t212 => (if t212 = true then (carousellaw12_ReqOrders.j0 k l3 true) else ((req_Kind_Above.f (wrap64 (Int.tmod a0 14)) 14).bind fun t213 => (if t213 = true then ((req_Kind_Above.f 14 (wrap64 (Int.tmod a0 14))).bind fun t214 => (carousellaw12_ReqOrders.j0 k l3 t214)) else (carousellaw12_ReqOrders.j0 k l3 true))))))) else ((req_Kind_Above.f (wrap64 (Int.tmod a0 14)) (wrap64 (Int.tmod a0 14))).bind fun t215 => (if t215 = true then (carousellaw12_ReqOrders.j0 k l3 true) else ((req_Kind_Above.f (wrap64 (Int.tmod a0 14)) 14).bind fun t216 => (if t216 = true then ((req_Kind_Above.f 14 (wrap64 (Int.tmod a0 14))).bind fun t217 => (carousellaw12_ReqOrders.j0 k l3 t217)) else (carousellaw12_ReqOrders.j0 k l3 true))))))) else (carousellaw12_ReqOrders.j0 k l3 true)))))) = some r := by rw [if_neg (show ¬ (false = true) by decide)] at H; exact H
    clear H
    have H := H1
    clear H1
    by_cases c10 : (wrap64 (Int.tmod a0 14)) = (wrap64 (Int.tmod a1 14))
    ·
     rw [if_pos c10] at H
     have c10b0 : ((wrap64 (Int.tmod a0 14)) == (wrap64 (Int.tmod a1 14))) = true := beq_iff_eq.mpr c10
     have c10b1 : ((wrap64 (Int.tmod a0 14)) != (wrap64 (Int.tmod a1 14))) = false := bne_eq_false_iff_eq.mpr c10
     clear c10
     (first | rw [c10b0] | (simp only [i64_w, i32_w]; rw [c10b0]) | skip)
     replace H := Option.bind_eq_some_iff.mp H
     obtain ⟨t180, A110, H⟩ := H
     try dsimp only at H
     have A11 := Aside0.mk A110
     clear A110
     by_cases c12 : t180 = true
     ·
      subst c12
      have H1 : ((req_Kind_Above.f (wrap64 (Int.tmod a1 14)) (wrap64 (Int.tmod a2 14))).bind fun t181 => (if t181 = true then ((req_Kind_Above.f (wrap64 (Int.tmod a0 14)) (wrap64 (Int.tmod a2 14))).bind fun t182 => (if t182 = true then ((req_Kind_Above.f (wrap64 (Int.tmod a0 14)) (wrap64 (Int.tmod a0 14))).bind fun t183 => (if t183 = true then (carousellaw12_ReqOrders.j0 k l3 true) else ((req_Kind_Above.f (wrap64 (Int.tmod a0 14)) 14).bind fun t184 => (if t184 = true then ((req_Kind_Above.f 14 (wrap64 (Int.tmod a0 14))).bind fun t185 => (carousellaw12_ReqOrders.j0 k l3 t185)) else (carousellaw12_ReqOrders.j0 k l3 true))))) else (carousellaw12_ReqOrders.j0 k l3 true))) else ((req_Kind_Above.f (wrap64 (Int.tmod a0 14)) (wrap64 (Int.tmod a0 14))).bind fun t186 => (if t186 = true then (carousellaw12_ReqOrders.j0 k l3 true) else ((req_Kind_Above.f (wrap64 (Int.tmod a0 14)) 14).bind fun t187 => (if t187 = true then ((req_Kind_Above.f 14 (wrap64 (Int.tmod a0 14))).bind fun t188 => (carousellaw12_ReqOrders.j0 k l3 t188)) else (carousellaw12_ReqOrders.j0 k l3 true))))))) = some r := by rw [if_pos rfl] at H; exact H
      clear H
      have H := H1
      clear H1
      replace H := Option.bind_eq_some_iff.mp H
      obtain ⟨t181, A130, H⟩ := H
      try dsimp only at H
      have A13 := Aside0.mk A130
      clear A130
      by_cases c14 : t181 = true
      ·
       subst c14
       have H1 : ((req_Kind_Above.f (wrap64 (Int.tmod a0 14)) (wrap64 (Int.tmod a2 14))).bind fun t182 => (if t182 = true then ((req_Kind_Above.f (wrap64 (Int.tmod a0 14)) (wrap64 (Int.tmod a0 14))).bind fun t183 => (if t183 = true then (carousellaw12_ReqOrders.j0 k l3 true) else ((req_Kind_Above.f (wrap64 (Int.tmod a0 14)) 14).bind fun t184 => (if t184 = true then ((req_Kind_Above.f 14 (wrap64 (Int.tmod a0 14))).bind fun t185 => (carousellaw12_ReqOrders.j0 k l3 t185)) else (carousellaw12_ReqOrders.j0 k l3 true))))) else (carousellaw12_ReqOrders.j0 k l3 true))) = some r := by rw [if_pos rfl] at H; exact H
       clear H
       have H := H1
       clear H1
       replace H := Option.bind_eq_some_iff.mp H
       obtain ⟨t182, A150, H⟩ := H
       try dsimp only at H
       have A15 := Aside0.mk A150
       clear A150
       by_cases c16 : t182 = true
       ·
        subst c16
        have H1 : ((req_Kind_Above.f (wrap64 (Int.tmod a0 14)) (wrap64 (Int.tmod a0 14))).bind fun t183 => (if t183 = true then (carousellaw12_ReqOrders.j0 k l3 true) else ((req_Kind_Above.f (wrap64 (Int.tmod a0 14)) 14).bind fun t184 => (if t184 = true then ((req_Kind_Above.f 14 (wrap64 (Int.tmod a0 14))).bind fun t185 => (carousellaw12_ReqOrders.j0 k l3 t185)) else (carousellaw12_ReqOrders.j0 k l3 true))))) = some r := by rw [if_pos rfl] at H; exact H
        clear H
        have H := H1
        clear H1
        replace H := Option.bind_eq_some_iff.mp H
        obtain ⟨t183, A170, H⟩ := H
        try dsimp only at H
        have A17 := Aside0.mk A170
        clear A170
        by_cases c18 : t183 = true
        ·
         subst c18
         have H1 : (carousellaw12_ReqOrders.j0 k l3 true) = some r := by rw [if_pos rfl] at H; exact H
         clear H
         have H := H1
         clear H1
         have H' := Aside0.mk H
         clear H
         go_wp2_with (first | ((with_reducible refine gate_callee (f := 22) rfl ?_); refine goesL_ (some 30) rfl rfl Try.func22 (by kernel_rfl) rfl #[.int .i64 (wrap64 (Int.tmod a0 14)), .int .i64 (wrap64 (Int.tmod a1 14))] rfl (by (try simp only [List.map_toArray, List.map_cons, List.map_nil]); first | done | rfl | (simp only [List.length_drop, List.length_take]; rfl)) ?_; (with_reducible refine (req_Kind_Above.calls (wrap64 (Int.tmod a0 14)) (wrap64 (Int.tmod a1 14)) true _ A6.out).mono ?_); rintro e w' ⟨rfl, ⟨nd, rfl⟩⟩; refine ⟨_, rfl, ?_⟩) | (go_at_call 22; (with_reducible refine (req_Kind_Above.calls (wrap64 (Int.tmod a1 14)) (wrap64 (Int.tmod a0 14)) false _ A8.out).mono ?_); rintro e w' ⟨rfl, ⟨nd, rfl⟩⟩) | (go_at_call 22; (with_reducible refine (req_Kind_Above.calls (wrap64 (Int.tmod a0 14)) (wrap64 (Int.tmod a1 14)) true _ A11.out).mono ?_); rintro e w' ⟨rfl, ⟨nd, rfl⟩⟩) | (go_at_call 22; (with_reducible refine (req_Kind_Above.calls (wrap64 (Int.tmod a1 14)) (wrap64 (Int.tmod a2 14)) true _ A13.out).mono ?_); rintro e w' ⟨rfl, ⟨nd, rfl⟩⟩) | (go_at_call 22; (with_reducible refine (req_Kind_Above.calls (wrap64 (Int.tmod a0 14)) (wrap64 (Int.tmod a2 14)) true _ A15.out).mono ?_); rintro e w' ⟨rfl, ⟨nd, rfl⟩⟩) | (go_at_call 22; (with_reducible refine (req_Kind_Above.calls (wrap64 (Int.tmod a0 14)) (wrap64 (Int.tmod a0 14)) true _ A17.out).mono ?_); rintro e w' ⟨rfl, ⟨nd, rfl⟩⟩))
         go_meet
         case rel => exact ⟨_, (true), (by first | rfl | (simp; done) | (simp [*]; done)), H', ⟨by first | omega | exact Nat.le_refl _⟩, ⟨by repeat (first | (with_reducible first | exact HB.out | apply below_alloc | apply pw_below_drewN | apply below_drew1) | exact HB.out)⟩⟩
        ·
         replace c18 := Bool.eq_false_iff.mpr c18
         subst c18
         have H1 : ((req_Kind_Above.f (wrap64 (Int.tmod a0 14)) 14).bind fun t184 => (if t184 = true then ((req_Kind_Above.f 14 (wrap64 (Int.tmod a0 14))).bind fun t185 => (carousellaw12_ReqOrders.j0 k l3 t185)) else (carousellaw12_ReqOrders.j0 k l3 true))) = some r := by rw [if_neg (show ¬ (false = true) by decide)] at H; exact H
         clear H
         have H := H1
         clear H1
         replace H := Option.bind_eq_some_iff.mp H
         obtain ⟨t184, A190, H⟩ := H
         try dsimp only at H
         have A19 := Aside0.mk A190
         clear A190
         by_cases c20 : t184 = true
         ·
          subst c20
          have H1 : ((req_Kind_Above.f 14 (wrap64 (Int.tmod a0 14))).bind fun t185 => (carousellaw12_ReqOrders.j0 k l3 t185)) = some r := by rw [if_pos rfl] at H; exact H
          clear H
          have H := H1
          clear H1
          replace H := Option.bind_eq_some_iff.mp H
          obtain ⟨t185, A210, H⟩ := H
          try dsimp only at H
          have A21 := Aside0.mk A210
          clear A210
          have H' := Aside0.mk H
          clear H
          go_wp2_with (first | ((with_reducible refine gate_callee (f := 22) rfl ?_); refine goesL_ (some 30) rfl rfl Try.func22 (by kernel_rfl) rfl #[.int .i64 (wrap64 (Int.tmod a0 14)), .int .i64 (wrap64 (Int.tmod a1 14))] rfl (by (try simp only [List.map_toArray, List.map_cons, List.map_nil]); first | done | rfl | (simp only [List.length_drop, List.length_take]; rfl)) ?_; (with_reducible refine (req_Kind_Above.calls (wrap64 (Int.tmod a0 14)) (wrap64 (Int.tmod a1 14)) true _ A6.out).mono ?_); rintro e w' ⟨rfl, ⟨nd, rfl⟩⟩; refine ⟨_, rfl, ?_⟩) | (go_at_call 22; (with_reducible refine (req_Kind_Above.calls (wrap64 (Int.tmod a1 14)) (wrap64 (Int.tmod a0 14)) false _ A8.out).mono ?_); rintro e w' ⟨rfl, ⟨nd, rfl⟩⟩) | (go_at_call 22; (with_reducible refine (req_Kind_Above.calls (wrap64 (Int.tmod a0 14)) (wrap64 (Int.tmod a1 14)) true _ A11.out).mono ?_); rintro e w' ⟨rfl, ⟨nd, rfl⟩⟩) | (go_at_call 22; (with_reducible refine (req_Kind_Above.calls (wrap64 (Int.tmod a1 14)) (wrap64 (Int.tmod a2 14)) true _ A13.out).mono ?_); rintro e w' ⟨rfl, ⟨nd, rfl⟩⟩) | (go_at_call 22; (with_reducible refine (req_Kind_Above.calls (wrap64 (Int.tmod a0 14)) (wrap64 (Int.tmod a2 14)) true _ A15.out).mono ?_); rintro e w' ⟨rfl, ⟨nd, rfl⟩⟩) | (go_at_call 22; (with_reducible refine (req_Kind_Above.calls (wrap64 (Int.tmod a0 14)) (wrap64 (Int.tmod a0 14)) false _ A17.out).mono ?_); rintro e w' ⟨rfl, ⟨nd, rfl⟩⟩) | (go_at_call 22; (with_reducible refine (req_Kind_Above.calls (wrap64 (Int.tmod a0 14)) 14 true _ A19.out).mono ?_); rintro e w' ⟨rfl, ⟨nd, rfl⟩⟩) | (go_at_call 22; (with_reducible refine (req_Kind_Above.calls 14 (wrap64 (Int.tmod a0 14)) t185 _ A21.out).mono ?_); rintro e w' ⟨rfl, ⟨nd, rfl⟩⟩))
          go_meet
          case rel => exact ⟨_, (t185), (by first | rfl | (simp; done) | (simp [*]; done)), H', ⟨by first | omega | exact Nat.le_refl _⟩, ⟨by repeat (first | (with_reducible first | exact HB.out | apply below_alloc | apply pw_below_drewN | apply below_drew1) | exact HB.out)⟩⟩
         ·
          replace c20 := Bool.eq_false_iff.mpr c20
          subst c20
          have H1 : (carousellaw12_ReqOrders.j0 k l3 true) = some r := by rw [if_neg (show ¬ (false = true) by decide)] at H; exact H
          clear H
          have H := H1
          clear H1
          have H' := Aside0.mk H
          clear H
          go_wp2_with (first | ((with_reducible refine gate_callee (f := 22) rfl ?_); refine goesL_ (some 30) rfl rfl Try.func22 (by kernel_rfl) rfl #[.int .i64 (wrap64 (Int.tmod a0 14)), .int .i64 (wrap64 (Int.tmod a1 14))] rfl (by (try simp only [List.map_toArray, List.map_cons, List.map_nil]); first | done | rfl | (simp only [List.length_drop, List.length_take]; rfl)) ?_; (with_reducible refine (req_Kind_Above.calls (wrap64 (Int.tmod a0 14)) (wrap64 (Int.tmod a1 14)) true _ A6.out).mono ?_); rintro e w' ⟨rfl, ⟨nd, rfl⟩⟩; refine ⟨_, rfl, ?_⟩) | (go_at_call 22; (with_reducible refine (req_Kind_Above.calls (wrap64 (Int.tmod a1 14)) (wrap64 (Int.tmod a0 14)) false _ A8.out).mono ?_); rintro e w' ⟨rfl, ⟨nd, rfl⟩⟩) | (go_at_call 22; (with_reducible refine (req_Kind_Above.calls (wrap64 (Int.tmod a0 14)) (wrap64 (Int.tmod a1 14)) true _ A11.out).mono ?_); rintro e w' ⟨rfl, ⟨nd, rfl⟩⟩) | (go_at_call 22; (with_reducible refine (req_Kind_Above.calls (wrap64 (Int.tmod a1 14)) (wrap64 (Int.tmod a2 14)) true _ A13.out).mono ?_); rintro e w' ⟨rfl, ⟨nd, rfl⟩⟩) | (go_at_call 22; (with_reducible refine (req_Kind_Above.calls (wrap64 (Int.tmod a0 14)) (wrap64 (Int.tmod a2 14)) true _ A15.out).mono ?_); rintro e w' ⟨rfl, ⟨nd, rfl⟩⟩) | (go_at_call 22; (with_reducible refine (req_Kind_Above.calls (wrap64 (Int.tmod a0 14)) (wrap64 (Int.tmod a0 14)) false _ A17.out).mono ?_); rintro e w' ⟨rfl, ⟨nd, rfl⟩⟩) | (go_at_call 22; (with_reducible refine (req_Kind_Above.calls (wrap64 (Int.tmod a0 14)) 14 false _ A19.out).mono ?_); rintro e w' ⟨rfl, ⟨nd, rfl⟩⟩))
          go_meet
          case rel => exact ⟨_, (true), (by first | rfl | (simp; done) | (simp [*]; done)), H', ⟨by first | omega | exact Nat.le_refl _⟩, ⟨by repeat (first | (with_reducible first | exact HB.out | apply below_alloc | apply pw_below_drewN | apply below_drew1) | exact HB.out)⟩⟩
       ·
        replace c16 := Bool.eq_false_iff.mpr c16
        subst c16
        have H1 : (carousellaw12_ReqOrders.j0 k l3 true) = some r := by rw [if_neg (show ¬ (false = true) by decide)] at H; exact H
        clear H
        have H := H1
        clear H1
        have H' := Aside0.mk H
        clear H
        go_wp2_with (first | ((with_reducible refine gate_callee (f := 22) rfl ?_); refine goesL_ (some 30) rfl rfl Try.func22 (by kernel_rfl) rfl #[.int .i64 (wrap64 (Int.tmod a0 14)), .int .i64 (wrap64 (Int.tmod a1 14))] rfl (by (try simp only [List.map_toArray, List.map_cons, List.map_nil]); first | done | rfl | (simp only [List.length_drop, List.length_take]; rfl)) ?_; (with_reducible refine (req_Kind_Above.calls (wrap64 (Int.tmod a0 14)) (wrap64 (Int.tmod a1 14)) true _ A6.out).mono ?_); rintro e w' ⟨rfl, ⟨nd, rfl⟩⟩; refine ⟨_, rfl, ?_⟩) | (go_at_call 22; (with_reducible refine (req_Kind_Above.calls (wrap64 (Int.tmod a1 14)) (wrap64 (Int.tmod a0 14)) false _ A8.out).mono ?_); rintro e w' ⟨rfl, ⟨nd, rfl⟩⟩) | (go_at_call 22; (with_reducible refine (req_Kind_Above.calls (wrap64 (Int.tmod a0 14)) (wrap64 (Int.tmod a1 14)) true _ A11.out).mono ?_); rintro e w' ⟨rfl, ⟨nd, rfl⟩⟩) | (go_at_call 22; (with_reducible refine (req_Kind_Above.calls (wrap64 (Int.tmod a1 14)) (wrap64 (Int.tmod a2 14)) true _ A13.out).mono ?_); rintro e w' ⟨rfl, ⟨nd, rfl⟩⟩) | (go_at_call 22; (with_reducible refine (req_Kind_Above.calls (wrap64 (Int.tmod a0 14)) (wrap64 (Int.tmod a2 14)) false _ A15.out).mono ?_); rintro e w' ⟨rfl, ⟨nd, rfl⟩⟩))
        go_meet
        case rel => exact ⟨_, (true), (by first | rfl | (simp; done) | (simp [*]; done)), H', ⟨by first | omega | exact Nat.le_refl _⟩, ⟨by repeat (first | (with_reducible first | exact HB.out | apply below_alloc | apply pw_below_drewN | apply below_drew1) | exact HB.out)⟩⟩
      ·
       replace c14 := Bool.eq_false_iff.mpr c14
       subst c14
       have H1 : ((req_Kind_Above.f (wrap64 (Int.tmod a0 14)) (wrap64 (Int.tmod a0 14))).bind fun t186 => (if t186 = true then (carousellaw12_ReqOrders.j0 k l3 true) else ((req_Kind_Above.f (wrap64 (Int.tmod a0 14)) 14).bind fun t187 => (if t187 = true then ((req_Kind_Above.f 14 (wrap64 (Int.tmod a0 14))).bind fun t188 => (carousellaw12_ReqOrders.j0 k l3 t188)) else (carousellaw12_ReqOrders.j0 k l3 true))))) = some r := by rw [if_neg (show ¬ (false = true) by decide)] at H; exact H
       clear H
       have H := H1
       clear H1
       replace H := Option.bind_eq_some_iff.mp H
       obtain ⟨t186, A220, H⟩ := H
       try dsimp only at H
       have A22 := Aside0.mk A220
       clear A220
       by_cases c23 : t186 = true
       ·
        subst c23
        have H1 : (carousellaw12_ReqOrders.j0 k l3 true) = some r := by rw [if_pos rfl] at H; exact H
        clear H
        have H := H1
        clear H1
        have H' := Aside0.mk H
        clear H
        go_wp2_with (first | ((with_reducible refine gate_callee (f := 22) rfl ?_); refine goesL_ (some 30) rfl rfl Try.func22 (by kernel_rfl) rfl #[.int .i64 (wrap64 (Int.tmod a0 14)), .int .i64 (wrap64 (Int.tmod a1 14))] rfl (by (try simp only [List.map_toArray, List.map_cons, List.map_nil]); first | done | rfl | (simp only [List.length_drop, List.length_take]; rfl)) ?_; (with_reducible refine (req_Kind_Above.calls (wrap64 (Int.tmod a0 14)) (wrap64 (Int.tmod a1 14)) true _ A6.out).mono ?_); rintro e w' ⟨rfl, ⟨nd, rfl⟩⟩; refine ⟨_, rfl, ?_⟩) | (go_at_call 22; (with_reducible refine (req_Kind_Above.calls (wrap64 (Int.tmod a1 14)) (wrap64 (Int.tmod a0 14)) false _ A8.out).mono ?_); rintro e w' ⟨rfl, ⟨nd, rfl⟩⟩) | (go_at_call 22; (with_reducible refine (req_Kind_Above.calls (wrap64 (Int.tmod a0 14)) (wrap64 (Int.tmod a1 14)) true _ A11.out).mono ?_); rintro e w' ⟨rfl, ⟨nd, rfl⟩⟩) | (go_at_call 22; (with_reducible refine (req_Kind_Above.calls (wrap64 (Int.tmod a1 14)) (wrap64 (Int.tmod a2 14)) false _ A13.out).mono ?_); rintro e w' ⟨rfl, ⟨nd, rfl⟩⟩) | (go_at_call 22; (with_reducible refine (req_Kind_Above.calls (wrap64 (Int.tmod a0 14)) (wrap64 (Int.tmod a0 14)) true _ A22.out).mono ?_); rintro e w' ⟨rfl, ⟨nd, rfl⟩⟩))
        go_meet
        case rel => exact ⟨_, (true), (by first | rfl | (simp; done) | (simp [*]; done)), H', ⟨by first | omega | exact Nat.le_refl _⟩, ⟨by repeat (first | (with_reducible first | exact HB.out | apply below_alloc | apply pw_below_drewN | apply below_drew1) | exact HB.out)⟩⟩
       ·
        replace c23 := Bool.eq_false_iff.mpr c23
        subst c23
        have H1 : ((req_Kind_Above.f (wrap64 (Int.tmod a0 14)) 14).bind fun t187 => (if t187 = true then ((req_Kind_Above.f 14 (wrap64 (Int.tmod a0 14))).bind fun t188 => (carousellaw12_ReqOrders.j0 k l3 t188)) else (carousellaw12_ReqOrders.j0 k l3 true))) = some r := by rw [if_neg (show ¬ (false = true) by decide)] at H; exact H
        clear H
        have H := H1
        clear H1
        replace H := Option.bind_eq_some_iff.mp H
        obtain ⟨t187, A240, H⟩ := H
        try dsimp only at H
        have A24 := Aside0.mk A240
        clear A240
        by_cases c25 : t187 = true
        ·
         subst c25
         have H1 : ((req_Kind_Above.f 14 (wrap64 (Int.tmod a0 14))).bind fun t188 => (carousellaw12_ReqOrders.j0 k l3 t188)) = some r := by rw [if_pos rfl] at H; exact H
         clear H
         have H := H1
         clear H1
         replace H := Option.bind_eq_some_iff.mp H
         obtain ⟨t188, A260, H⟩ := H
         try dsimp only at H
         have A26 := Aside0.mk A260
         clear A260
         have H' := Aside0.mk H
         clear H
         go_wp2_with (first | ((with_reducible refine gate_callee (f := 22) rfl ?_); refine goesL_ (some 30) rfl rfl Try.func22 (by kernel_rfl) rfl #[.int .i64 (wrap64 (Int.tmod a0 14)), .int .i64 (wrap64 (Int.tmod a1 14))] rfl (by (try simp only [List.map_toArray, List.map_cons, List.map_nil]); first | done | rfl | (simp only [List.length_drop, List.length_take]; rfl)) ?_; (with_reducible refine (req_Kind_Above.calls (wrap64 (Int.tmod a0 14)) (wrap64 (Int.tmod a1 14)) true _ A6.out).mono ?_); rintro e w' ⟨rfl, ⟨nd, rfl⟩⟩; refine ⟨_, rfl, ?_⟩) | (go_at_call 22; (with_reducible refine (req_Kind_Above.calls (wrap64 (Int.tmod a1 14)) (wrap64 (Int.tmod a0 14)) false _ A8.out).mono ?_); rintro e w' ⟨rfl, ⟨nd, rfl⟩⟩) | (go_at_call 22; (with_reducible refine (req_Kind_Above.calls (wrap64 (Int.tmod a0 14)) (wrap64 (Int.tmod a1 14)) true _ A11.out).mono ?_); rintro e w' ⟨rfl, ⟨nd, rfl⟩⟩) | (go_at_call 22; (with_reducible refine (req_Kind_Above.calls (wrap64 (Int.tmod a1 14)) (wrap64 (Int.tmod a2 14)) false _ A13.out).mono ?_); rintro e w' ⟨rfl, ⟨nd, rfl⟩⟩) | (go_at_call 22; (with_reducible refine (req_Kind_Above.calls (wrap64 (Int.tmod a0 14)) (wrap64 (Int.tmod a0 14)) false _ A22.out).mono ?_); rintro e w' ⟨rfl, ⟨nd, rfl⟩⟩) | (go_at_call 22; (with_reducible refine (req_Kind_Above.calls (wrap64 (Int.tmod a0 14)) 14 true _ A24.out).mono ?_); rintro e w' ⟨rfl, ⟨nd, rfl⟩⟩) | (go_at_call 22; (with_reducible refine (req_Kind_Above.calls 14 (wrap64 (Int.tmod a0 14)) t188 _ A26.out).mono ?_); rintro e w' ⟨rfl, ⟨nd, rfl⟩⟩))
         go_meet
         case rel => exact ⟨_, (t188), (by first | rfl | (simp; done) | (simp [*]; done)), H', ⟨by first | omega | exact Nat.le_refl _⟩, ⟨by repeat (first | (with_reducible first | exact HB.out | apply below_alloc | apply pw_below_drewN | apply below_drew1) | exact HB.out)⟩⟩
        ·
         replace c25 := Bool.eq_false_iff.mpr c25
         subst c25
         have H1 : (carousellaw12_ReqOrders.j0 k l3 true) = some r := by rw [if_neg (show ¬ (false = true) by decide)] at H; exact H
         clear H
         have H := H1
         clear H1
         have H' := Aside0.mk H
         clear H
         go_wp2_with (first | ((with_reducible refine gate_callee (f := 22) rfl ?_); refine goesL_ (some 30) rfl rfl Try.func22 (by kernel_rfl) rfl #[.int .i64 (wrap64 (Int.tmod a0 14)), .int .i64 (wrap64 (Int.tmod a1 14))] rfl (by (try simp only [List.map_toArray, List.map_cons, List.map_nil]); first | done | rfl | (simp only [List.length_drop, List.length_take]; rfl)) ?_; (with_reducible refine (req_Kind_Above.calls (wrap64 (Int.tmod a0 14)) (wrap64 (Int.tmod a1 14)) true _ A6.out).mono ?_); rintro e w' ⟨rfl, ⟨nd, rfl⟩⟩; refine ⟨_, rfl, ?_⟩) | (go_at_call 22; (with_reducible refine (req_Kind_Above.calls (wrap64 (Int.tmod a1 14)) (wrap64 (Int.tmod a0 14)) false _ A8.out).mono ?_); rintro e w' ⟨rfl, ⟨nd, rfl⟩⟩) | (go_at_call 22; (with_reducible refine (req_Kind_Above.calls (wrap64 (Int.tmod a0 14)) (wrap64 (Int.tmod a1 14)) true _ A11.out).mono ?_); rintro e w' ⟨rfl, ⟨nd, rfl⟩⟩) | (go_at_call 22; (with_reducible refine (req_Kind_Above.calls (wrap64 (Int.tmod a1 14)) (wrap64 (Int.tmod a2 14)) false _ A13.out).mono ?_); rintro e w' ⟨rfl, ⟨nd, rfl⟩⟩) | (go_at_call 22; (with_reducible refine (req_Kind_Above.calls (wrap64 (Int.tmod a0 14)) (wrap64 (Int.tmod a0 14)) false _ A22.out).mono ?_); rintro e w' ⟨rfl, ⟨nd, rfl⟩⟩) | (go_at_call 22; (with_reducible refine (req_Kind_Above.calls (wrap64 (Int.tmod a0 14)) 14 false _ A24.out).mono ?_); rintro e w' ⟨rfl, ⟨nd, rfl⟩⟩))
         go_meet
         case rel => exact ⟨_, (true), (by first | rfl | (simp; done) | (simp [*]; done)), H', ⟨by first | omega | exact Nat.le_refl _⟩, ⟨by repeat (first | (with_reducible first | exact HB.out | apply below_alloc | apply pw_below_drewN | apply below_drew1) | exact HB.out)⟩⟩
     ·
      replace c12 := Bool.eq_false_iff.mpr c12
      subst c12
      exact absurd (Option.some.inj (A6.out.symm.trans A11.out)) (by decide)
    ·
     rw [if_neg c10] at H
     have c10b0 : ((wrap64 (Int.tmod a0 14)) == (wrap64 (Int.tmod a1 14))) = false := beq_eq_false_iff_ne.mpr c10
     have c10b1 : ((wrap64 (Int.tmod a0 14)) != (wrap64 (Int.tmod a1 14))) = true := bne_iff_ne.mpr c10
     (first | rw [c10b0] | (simp only [i64_w, i32_w]; rw [c10b0]) | skip)
     replace H := Option.bind_eq_some_iff.mp H
     obtain ⟨t192, A320, H⟩ := H
     try dsimp only at H
     have A32 := Aside0.mk A320
     clear A320
     by_cases c33 : t192 = true
     ·
      subst c33
      have H1 : ((req_Kind_Above.f (wrap64 (Int.tmod a0 14)) (wrap64 (Int.tmod a1 14))).bind fun t193 => (if t193 = true then ((req_Kind_Above.f (wrap64 (Int.tmod a1 14)) (wrap64 (Int.tmod a2 14))).bind fun t194 => (if t194 = true then ((req_Kind_Above.f (wrap64 (Int.tmod a0 14)) (wrap64 (Int.tmod a2 14))).bind fun t195 => (if t195 = true then ((req_Kind_Above.f (wrap64 (Int.tmod a0 14)) (wrap64 (Int.tmod a0 14))).bind fun t196 => (if t196 = true then (carousellaw12_ReqOrders.j0 k l3 true) else ((req_Kind_Above.f (wrap64 (Int.tmod a0 14)) 14).bind fun t197 => (if t197 = true then ((req_Kind_Above.f 14 (wrap64 (Int.tmod a0 14))).bind fun t198 => (carousellaw12_ReqOrders.j0 k l3 t198)) else (carousellaw12_ReqOrders.j0 k l3 true))))) else (carousellaw12_ReqOrders.j0 k l3 true))) else ((req_Kind_Above.f (wrap64 (Int.tmod a0 14)) (wrap64 (Int.tmod a0 14))).bind fun t199 => (if t199 = true then (carousellaw12_ReqOrders.j0 k l3 true) else ((req_Kind_Above.f (wrap64 (Int.tmod a0 14)) 14).bind fun t200 => (if t200 = true then ((req_Kind_Above.f 14 (wrap64 (Int.tmod a0 14))).bind fun t201 => (carousellaw12_ReqOrders.j0 k l3 t201)) else (carousellaw12_ReqOrders.j0 k l3 true))))))) else ((req_Kind_Above.f (wrap64 (Int.tmod a0 14)) (wrap64 (Int.tmod a0 14))).bind fun t202 => (if t202 = true then (carousellaw12_ReqOrders.j0 k l3 true) else ((req_Kind_Above.f (wrap64 (Int.tmod a0 14)) 14).bind fun t203 => (if t203 = true then ((req_Kind_Above.f 14 (wrap64 (Int.tmod a0 14))).bind fun t204 => (carousellaw12_ReqOrders.j0 k l3 t204)) else (carousellaw12_ReqOrders.j0 k l3 true))))))) = some r := by rw [if_pos rfl] at H; exact H
      clear H
      have H := H1
      clear H1
      replace H := Option.bind_eq_some_iff.mp H
      obtain ⟨t193, A340, H⟩ := H
      try dsimp only at H
      have A34 := Aside0.mk A340
      clear A340
      by_cases c35 : t193 = true
      ·
       subst c35
       have H1 : ((req_Kind_Above.f (wrap64 (Int.tmod a1 14)) (wrap64 (Int.tmod a2 14))).bind fun t194 => (if t194 = true then ((req_Kind_Above.f (wrap64 (Int.tmod a0 14)) (wrap64 (Int.tmod a2 14))).bind fun t195 => (if t195 = true then ((req_Kind_Above.f (wrap64 (Int.tmod a0 14)) (wrap64 (Int.tmod a0 14))).bind fun t196 => (if t196 = true then (carousellaw12_ReqOrders.j0 k l3 true) else ((req_Kind_Above.f (wrap64 (Int.tmod a0 14)) 14).bind fun t197 => (if t197 = true then ((req_Kind_Above.f 14 (wrap64 (Int.tmod a0 14))).bind fun t198 => (carousellaw12_ReqOrders.j0 k l3 t198)) else (carousellaw12_ReqOrders.j0 k l3 true))))) else (carousellaw12_ReqOrders.j0 k l3 true))) else ((req_Kind_Above.f (wrap64 (Int.tmod a0 14)) (wrap64 (Int.tmod a0 14))).bind fun t199 => (if t199 = true then (carousellaw12_ReqOrders.j0 k l3 true) else ((req_Kind_Above.f (wrap64 (Int.tmod a0 14)) 14).bind fun t200 => (if t200 = true then ((req_Kind_Above.f 14 (wrap64 (Int.tmod a0 14))).bind fun t201 => (carousellaw12_ReqOrders.j0 k l3 t201)) else (carousellaw12_ReqOrders.j0 k l3 true))))))) = some r := by rw [if_pos rfl] at H; exact H
       clear H
       have H := H1
       clear H1
       replace H := Option.bind_eq_some_iff.mp H
       obtain ⟨t194, A360, H⟩ := H
       try dsimp only at H
       have A36 := Aside0.mk A360
       clear A360
       by_cases c37 : t194 = true
       ·
        subst c37
        have H1 : ((req_Kind_Above.f (wrap64 (Int.tmod a0 14)) (wrap64 (Int.tmod a2 14))).bind fun t195 => (if t195 = true then ((req_Kind_Above.f (wrap64 (Int.tmod a0 14)) (wrap64 (Int.tmod a0 14))).bind fun t196 => (if t196 = true then (carousellaw12_ReqOrders.j0 k l3 true) else ((req_Kind_Above.f (wrap64 (Int.tmod a0 14)) 14).bind fun t197 => (if t197 = true then ((req_Kind_Above.f 14 (wrap64 (Int.tmod a0 14))).bind fun t198 => (carousellaw12_ReqOrders.j0 k l3 t198)) else (carousellaw12_ReqOrders.j0 k l3 true))))) else (carousellaw12_ReqOrders.j0 k l3 true))) = some r := by rw [if_pos rfl] at H; exact H
        clear H
        have H := H1
        clear H1
        replace H := Option.bind_eq_some_iff.mp H
        obtain ⟨t195, A380, H⟩ := H
        try dsimp only at H
        have A38 := Aside0.mk A380
        clear A380
        by_cases c39 : t195 = true
        ·
         subst c39
         have H1 : ((req_Kind_Above.f (wrap64 (Int.tmod a0 14)) (wrap64 (Int.tmod a0 14))).bind fun t196 => (if t196 = true then (carousellaw12_ReqOrders.j0 k l3 true) else ((req_Kind_Above.f (wrap64 (Int.tmod a0 14)) 14).bind fun t197 => (if t197 = true then ((req_Kind_Above.f 14 (wrap64 (Int.tmod a0 14))).bind fun t198 => (carousellaw12_ReqOrders.j0 k l3 t198)) else (carousellaw12_ReqOrders.j0 k l3 true))))) = some r := by rw [if_pos rfl] at H; exact H
         clear H
         have H := H1
         clear H1
         replace H := Option.bind_eq_some_iff.mp H
         obtain ⟨t196, A400, H⟩ := H
         try dsimp only at H
         have A40 := Aside0.mk A400
         clear A400
         by_cases c41 : t196 = true
         ·
          subst c41
          have H1 : (carousellaw12_ReqOrders.j0 k l3 true) = some r := by rw [if_pos rfl] at H; exact H
          clear H
          have H := H1
          clear H1
          have H' := Aside0.mk H
          clear H
          go_wp2_with (first | ((with_reducible refine gate_callee (f := 22) rfl ?_); refine goesL_ (some 30) rfl rfl Try.func22 (by kernel_rfl) rfl #[.int .i64 (wrap64 (Int.tmod a0 14)), .int .i64 (wrap64 (Int.tmod a1 14))] rfl (by (try simp only [List.map_toArray, List.map_cons, List.map_nil]); first | done | rfl | (simp only [List.length_drop, List.length_take]; rfl)) ?_; (with_reducible refine (req_Kind_Above.calls (wrap64 (Int.tmod a0 14)) (wrap64 (Int.tmod a1 14)) true _ A6.out).mono ?_); rintro e w' ⟨rfl, ⟨nd, rfl⟩⟩; refine ⟨_, rfl, ?_⟩) | (go_at_call 22; (with_reducible refine (req_Kind_Above.calls (wrap64 (Int.tmod a1 14)) (wrap64 (Int.tmod a0 14)) false _ A8.out).mono ?_); rintro e w' ⟨rfl, ⟨nd, rfl⟩⟩) | (go_at_call 22; (with_reducible refine (req_Kind_Above.calls (wrap64 (Int.tmod a0 14)) (wrap64 (Int.tmod a1 14)) true _ A32.out).mono ?_); rintro e w' ⟨rfl, ⟨nd, rfl⟩⟩) | (go_at_call 22; (with_reducible refine (req_Kind_Above.calls (wrap64 (Int.tmod a0 14)) (wrap64 (Int.tmod a1 14)) true _ A34.out).mono ?_); rintro e w' ⟨rfl, ⟨nd, rfl⟩⟩) | (go_at_call 22; (with_reducible refine (req_Kind_Above.calls (wrap64 (Int.tmod a1 14)) (wrap64 (Int.tmod a2 14)) true _ A36.out).mono ?_); rintro e w' ⟨rfl, ⟨nd, rfl⟩⟩) | (go_at_call 22; (with_reducible refine (req_Kind_Above.calls (wrap64 (Int.tmod a0 14)) (wrap64 (Int.tmod a2 14)) true _ A38.out).mono ?_); rintro e w' ⟨rfl, ⟨nd, rfl⟩⟩) | (go_at_call 22; (with_reducible refine (req_Kind_Above.calls (wrap64 (Int.tmod a0 14)) (wrap64 (Int.tmod a0 14)) true _ A40.out).mono ?_); rintro e w' ⟨rfl, ⟨nd, rfl⟩⟩))
          go_meet
          case rel => exact ⟨_, (true), (by first | rfl | (simp; done) | (simp [*]; done)), H', ⟨by first | omega | exact Nat.le_refl _⟩, ⟨by repeat (first | (with_reducible first | exact HB.out | apply below_alloc | apply pw_below_drewN | apply below_drew1) | exact HB.out)⟩⟩
         ·
          replace c41 := Bool.eq_false_iff.mpr c41
          subst c41
          have H1 : ((req_Kind_Above.f (wrap64 (Int.tmod a0 14)) 14).bind fun t197 => (if t197 = true then ((req_Kind_Above.f 14 (wrap64 (Int.tmod a0 14))).bind fun t198 => (carousellaw12_ReqOrders.j0 k l3 t198)) else (carousellaw12_ReqOrders.j0 k l3 true))) = some r := by rw [if_neg (show ¬ (false = true) by decide)] at H; exact H
          clear H
          have H := H1
          clear H1
          replace H := Option.bind_eq_some_iff.mp H
          obtain ⟨t197, A420, H⟩ := H
          try dsimp only at H
          have A42 := Aside0.mk A420
          clear A420
          by_cases c43 : t197 = true
          ·
           subst c43
           have H1 : ((req_Kind_Above.f 14 (wrap64 (Int.tmod a0 14))).bind fun t198 => (carousellaw12_ReqOrders.j0 k l3 t198)) = some r := by rw [if_pos rfl] at H; exact H
           clear H
           have H := H1
           clear H1
           replace H := Option.bind_eq_some_iff.mp H
           obtain ⟨t198, A440, H⟩ := H
           try dsimp only at H
           have A44 := Aside0.mk A440
           clear A440
           have H' := Aside0.mk H
           clear H
           go_wp2_with (first | ((with_reducible refine gate_callee (f := 22) rfl ?_); refine goesL_ (some 30) rfl rfl Try.func22 (by kernel_rfl) rfl #[.int .i64 (wrap64 (Int.tmod a0 14)), .int .i64 (wrap64 (Int.tmod a1 14))] rfl (by (try simp only [List.map_toArray, List.map_cons, List.map_nil]); first | done | rfl | (simp only [List.length_drop, List.length_take]; rfl)) ?_; (with_reducible refine (req_Kind_Above.calls (wrap64 (Int.tmod a0 14)) (wrap64 (Int.tmod a1 14)) true _ A6.out).mono ?_); rintro e w' ⟨rfl, ⟨nd, rfl⟩⟩; refine ⟨_, rfl, ?_⟩) | (go_at_call 22; (with_reducible refine (req_Kind_Above.calls (wrap64 (Int.tmod a1 14)) (wrap64 (Int.tmod a0 14)) false _ A8.out).mono ?_); rintro e w' ⟨rfl, ⟨nd, rfl⟩⟩) | (go_at_call 22; (with_reducible refine (req_Kind_Above.calls (wrap64 (Int.tmod a0 14)) (wrap64 (Int.tmod a1 14)) true _ A32.out).mono ?_); rintro e w' ⟨rfl, ⟨nd, rfl⟩⟩) | (go_at_call 22; (with_reducible refine (req_Kind_Above.calls (wrap64 (Int.tmod a0 14)) (wrap64 (Int.tmod a1 14)) true _ A34.out).mono ?_); rintro e w' ⟨rfl, ⟨nd, rfl⟩⟩) | (go_at_call 22; (with_reducible refine (req_Kind_Above.calls (wrap64 (Int.tmod a1 14)) (wrap64 (Int.tmod a2 14)) true _ A36.out).mono ?_); rintro e w' ⟨rfl, ⟨nd, rfl⟩⟩) | (go_at_call 22; (with_reducible refine (req_Kind_Above.calls (wrap64 (Int.tmod a0 14)) (wrap64 (Int.tmod a2 14)) true _ A38.out).mono ?_); rintro e w' ⟨rfl, ⟨nd, rfl⟩⟩) | (go_at_call 22; (with_reducible refine (req_Kind_Above.calls (wrap64 (Int.tmod a0 14)) (wrap64 (Int.tmod a0 14)) false _ A40.out).mono ?_); rintro e w' ⟨rfl, ⟨nd, rfl⟩⟩) | (go_at_call 22; (with_reducible refine (req_Kind_Above.calls (wrap64 (Int.tmod a0 14)) 14 true _ A42.out).mono ?_); rintro e w' ⟨rfl, ⟨nd, rfl⟩⟩) | (go_at_call 22; (with_reducible refine (req_Kind_Above.calls 14 (wrap64 (Int.tmod a0 14)) t198 _ A44.out).mono ?_); rintro e w' ⟨rfl, ⟨nd, rfl⟩⟩))
           go_meet
           case rel => exact ⟨_, (t198), (by first | rfl | (simp; done) | (simp [*]; done)), H', ⟨by first | omega | exact Nat.le_refl _⟩, ⟨by repeat (first | (with_reducible first | exact HB.out | apply below_alloc | apply pw_below_drewN | apply below_drew1) | exact HB.out)⟩⟩
          ·
           replace c43 := Bool.eq_false_iff.mpr c43
           subst c43
           have H1 : (carousellaw12_ReqOrders.j0 k l3 true) = some r := by rw [if_neg (show ¬ (false = true) by decide)] at H; exact H
           clear H
           have H := H1
           clear H1
           have H' := Aside0.mk H
           clear H
           go_wp2_with (first | ((with_reducible refine gate_callee (f := 22) rfl ?_); refine goesL_ (some 30) rfl rfl Try.func22 (by kernel_rfl) rfl #[.int .i64 (wrap64 (Int.tmod a0 14)), .int .i64 (wrap64 (Int.tmod a1 14))] rfl (by (try simp only [List.map_toArray, List.map_cons, List.map_nil]); first | done | rfl | (simp only [List.length_drop, List.length_take]; rfl)) ?_; (with_reducible refine (req_Kind_Above.calls (wrap64 (Int.tmod a0 14)) (wrap64 (Int.tmod a1 14)) true _ A6.out).mono ?_); rintro e w' ⟨rfl, ⟨nd, rfl⟩⟩; refine ⟨_, rfl, ?_⟩) | (go_at_call 22; (with_reducible refine (req_Kind_Above.calls (wrap64 (Int.tmod a1 14)) (wrap64 (Int.tmod a0 14)) false _ A8.out).mono ?_); rintro e w' ⟨rfl, ⟨nd, rfl⟩⟩) | (go_at_call 22; (with_reducible refine (req_Kind_Above.calls (wrap64 (Int.tmod a0 14)) (wrap64 (Int.tmod a1 14)) true _ A32.out).mono ?_); rintro e w' ⟨rfl, ⟨nd, rfl⟩⟩) | (go_at_call 22; (with_reducible refine (req_Kind_Above.calls (wrap64 (Int.tmod a0 14)) (wrap64 (Int.tmod a1 14)) true _ A34.out).mono ?_); rintro e w' ⟨rfl, ⟨nd, rfl⟩⟩) | (go_at_call 22; (with_reducible refine (req_Kind_Above.calls (wrap64 (Int.tmod a1 14)) (wrap64 (Int.tmod a2 14)) true _ A36.out).mono ?_); rintro e w' ⟨rfl, ⟨nd, rfl⟩⟩) | (go_at_call 22; (with_reducible refine (req_Kind_Above.calls (wrap64 (Int.tmod a0 14)) (wrap64 (Int.tmod a2 14)) true _ A38.out).mono ?_); rintro e w' ⟨rfl, ⟨nd, rfl⟩⟩) | (go_at_call 22; (with_reducible refine (req_Kind_Above.calls (wrap64 (Int.tmod a0 14)) (wrap64 (Int.tmod a0 14)) false _ A40.out).mono ?_); rintro e w' ⟨rfl, ⟨nd, rfl⟩⟩) | (go_at_call 22; (with_reducible refine (req_Kind_Above.calls (wrap64 (Int.tmod a0 14)) 14 false _ A42.out).mono ?_); rintro e w' ⟨rfl, ⟨nd, rfl⟩⟩))
           go_meet
           case rel => exact ⟨_, (true), (by first | rfl | (simp; done) | (simp [*]; done)), H', ⟨by first | omega | exact Nat.le_refl _⟩, ⟨by repeat (first | (with_reducible first | exact HB.out | apply below_alloc | apply pw_below_drewN | apply below_drew1) | exact HB.out)⟩⟩
        ·
         replace c39 := Bool.eq_false_iff.mpr c39
         subst c39
         have H1 : (carousellaw12_ReqOrders.j0 k l3 true) = some r := by rw [if_neg (show ¬ (false = true) by decide)] at H; exact H
         clear H
         have H := H1
         clear H1
         have H' := Aside0.mk H
         clear H
         go_wp2_with (first | ((with_reducible refine gate_callee (f := 22) rfl ?_); refine goesL_ (some 30) rfl rfl Try.func22 (by kernel_rfl) rfl #[.int .i64 (wrap64 (Int.tmod a0 14)), .int .i64 (wrap64 (Int.tmod a1 14))] rfl (by (try simp only [List.map_toArray, List.map_cons, List.map_nil]); first | done | rfl | (simp only [List.length_drop, List.length_take]; rfl)) ?_; (with_reducible refine (req_Kind_Above.calls (wrap64 (Int.tmod a0 14)) (wrap64 (Int.tmod a1 14)) true _ A6.out).mono ?_); rintro e w' ⟨rfl, ⟨nd, rfl⟩⟩; refine ⟨_, rfl, ?_⟩) | (go_at_call 22; (with_reducible refine (req_Kind_Above.calls (wrap64 (Int.tmod a1 14)) (wrap64 (Int.tmod a0 14)) false _ A8.out).mono ?_); rintro e w' ⟨rfl, ⟨nd, rfl⟩⟩) | (go_at_call 22; (with_reducible refine (req_Kind_Above.calls (wrap64 (Int.tmod a0 14)) (wrap64 (Int.tmod a1 14)) true _ A32.out).mono ?_); rintro e w' ⟨rfl, ⟨nd, rfl⟩⟩) | (go_at_call 22; (with_reducible refine (req_Kind_Above.calls (wrap64 (Int.tmod a0 14)) (wrap64 (Int.tmod a1 14)) true _ A34.out).mono ?_); rintro e w' ⟨rfl, ⟨nd, rfl⟩⟩) | (go_at_call 22; (with_reducible refine (req_Kind_Above.calls (wrap64 (Int.tmod a1 14)) (wrap64 (Int.tmod a2 14)) true _ A36.out).mono ?_); rintro e w' ⟨rfl, ⟨nd, rfl⟩⟩) | (go_at_call 22; (with_reducible refine (req_Kind_Above.calls (wrap64 (Int.tmod a0 14)) (wrap64 (Int.tmod a2 14)) false _ A38.out).mono ?_); rintro e w' ⟨rfl, ⟨nd, rfl⟩⟩))
         go_meet
         case rel => exact ⟨_, (true), (by first | rfl | (simp; done) | (simp [*]; done)), H', ⟨by first | omega | exact Nat.le_refl _⟩, ⟨by repeat (first | (with_reducible first | exact HB.out | apply below_alloc | apply pw_below_drewN | apply below_drew1) | exact HB.out)⟩⟩
       ·
        replace c37 := Bool.eq_false_iff.mpr c37
        subst c37
        have H1 : ((req_Kind_Above.f (wrap64 (Int.tmod a0 14)) (wrap64 (Int.tmod a0 14))).bind fun t199 => (if t199 = true then (carousellaw12_ReqOrders.j0 k l3 true) else ((req_Kind_Above.f (wrap64 (Int.tmod a0 14)) 14).bind fun t200 => (if t200 = true then ((req_Kind_Above.f 14 (wrap64 (Int.tmod a0 14))).bind fun t201 => (carousellaw12_ReqOrders.j0 k l3 t201)) else (carousellaw12_ReqOrders.j0 k l3 true))))) = some r := by rw [if_neg (show ¬ (false = true) by decide)] at H; exact H
        clear H
        have H := H1
        clear H1
        replace H := Option.bind_eq_some_iff.mp H
        obtain ⟨t199, A450, H⟩ := H
        try dsimp only at H
        have A45 := Aside0.mk A450
        clear A450
        by_cases c46 : t199 = true
        ·
         subst c46
         have H1 : (carousellaw12_ReqOrders.j0 k l3 true) = some r := by rw [if_pos rfl] at H; exact H
         clear H
         have H := H1
         clear H1
         have H' := Aside0.mk H
         clear H
         go_wp2_with (first | ((with_reducible refine gate_callee (f := 22) rfl ?_); refine goesL_ (some 30) rfl rfl Try.func22 (by kernel_rfl) rfl #[.int .i64 (wrap64 (Int.tmod a0 14)), .int .i64 (wrap64 (Int.tmod a1 14))] rfl (by (try simp only [List.map_toArray, List.map_cons, List.map_nil]); first | done | rfl | (simp only [List.length_drop, List.length_take]; rfl)) ?_; (with_reducible refine (req_Kind_Above.calls (wrap64 (Int.tmod a0 14)) (wrap64 (Int.tmod a1 14)) true _ A6.out).mono ?_); rintro e w' ⟨rfl, ⟨nd, rfl⟩⟩; refine ⟨_, rfl, ?_⟩) | (go_at_call 22; (with_reducible refine (req_Kind_Above.calls (wrap64 (Int.tmod a1 14)) (wrap64 (Int.tmod a0 14)) false _ A8.out).mono ?_); rintro e w' ⟨rfl, ⟨nd, rfl⟩⟩) | (go_at_call 22; (with_reducible refine (req_Kind_Above.calls (wrap64 (Int.tmod a0 14)) (wrap64 (Int.tmod a1 14)) true _ A32.out).mono ?_); rintro e w' ⟨rfl, ⟨nd, rfl⟩⟩) | (go_at_call 22; (with_reducible refine (req_Kind_Above.calls (wrap64 (Int.tmod a0 14)) (wrap64 (Int.tmod a1 14)) true _ A34.out).mono ?_); rintro e w' ⟨rfl, ⟨nd, rfl⟩⟩) | (go_at_call 22; (with_reducible refine (req_Kind_Above.calls (wrap64 (Int.tmod a1 14)) (wrap64 (Int.tmod a2 14)) false _ A36.out).mono ?_); rintro e w' ⟨rfl, ⟨nd, rfl⟩⟩) | (go_at_call 22; (with_reducible refine (req_Kind_Above.calls (wrap64 (Int.tmod a0 14)) (wrap64 (Int.tmod a0 14)) true _ A45.out).mono ?_); rintro e w' ⟨rfl, ⟨nd, rfl⟩⟩))
         go_meet
         case rel => exact ⟨_, (true), (by first | rfl | (simp; done) | (simp [*]; done)), H', ⟨by first | omega | exact Nat.le_refl _⟩, ⟨by repeat (first | (with_reducible first | exact HB.out | apply below_alloc | apply pw_below_drewN | apply below_drew1) | exact HB.out)⟩⟩
        ·
         replace c46 := Bool.eq_false_iff.mpr c46
         subst c46
         have H1 : ((req_Kind_Above.f (wrap64 (Int.tmod a0 14)) 14).bind fun t200 => (if t200 = true then ((req_Kind_Above.f 14 (wrap64 (Int.tmod a0 14))).bind fun t201 => (carousellaw12_ReqOrders.j0 k l3 t201)) else (carousellaw12_ReqOrders.j0 k l3 true))) = some r := by rw [if_neg (show ¬ (false = true) by decide)] at H; exact H
         clear H
         have H := H1
         clear H1
         replace H := Option.bind_eq_some_iff.mp H
         obtain ⟨t200, A470, H⟩ := H
         try dsimp only at H
         have A47 := Aside0.mk A470
         clear A470
         by_cases c48 : t200 = true
         ·
          subst c48
          have H1 : ((req_Kind_Above.f 14 (wrap64 (Int.tmod a0 14))).bind fun t201 => (carousellaw12_ReqOrders.j0 k l3 t201)) = some r := by rw [if_pos rfl] at H; exact H
          clear H
          have H := H1
          clear H1
          replace H := Option.bind_eq_some_iff.mp H
          obtain ⟨t201, A490, H⟩ := H
          try dsimp only at H
          have A49 := Aside0.mk A490
          clear A490
          have H' := Aside0.mk H
          clear H
          go_wp2_with (first | ((with_reducible refine gate_callee (f := 22) rfl ?_); refine goesL_ (some 30) rfl rfl Try.func22 (by kernel_rfl) rfl #[.int .i64 (wrap64 (Int.tmod a0 14)), .int .i64 (wrap64 (Int.tmod a1 14))] rfl (by (try simp only [List.map_toArray, List.map_cons, List.map_nil]); first | done | rfl | (simp only [List.length_drop, List.length_take]; rfl)) ?_; (with_reducible refine (req_Kind_Above.calls (wrap64 (Int.tmod a0 14)) (wrap64 (Int.tmod a1 14)) true _ A6.out).mono ?_); rintro e w' ⟨rfl, ⟨nd, rfl⟩⟩; refine ⟨_, rfl, ?_⟩) | (go_at_call 22; (with_reducible refine (req_Kind_Above.calls (wrap64 (Int.tmod a1 14)) (wrap64 (Int.tmod a0 14)) false _ A8.out).mono ?_); rintro e w' ⟨rfl, ⟨nd, rfl⟩⟩) | (go_at_call 22; (with_reducible refine (req_Kind_Above.calls (wrap64 (Int.tmod a0 14)) (wrap64 (Int.tmod a1 14)) true _ A32.out).mono ?_); rintro e w' ⟨rfl, ⟨nd, rfl⟩⟩) | (go_at_call 22; (with_reducible refine (req_Kind_Above.calls (wrap64 (Int.tmod a0 14)) (wrap64 (Int.tmod a1 14)) true _ A34.out).mono ?_); rintro e w' ⟨rfl, ⟨nd, rfl⟩⟩) | (go_at_call 22; (with_reducible refine (req_Kind_Above.calls (wrap64 (Int.tmod a1 14)) (wrap64 (Int.tmod a2 14)) false _ A36.out).mono ?_); rintro e w' ⟨rfl, ⟨nd, rfl⟩⟩) | (go_at_call 22; (with_reducible refine (req_Kind_Above.calls (wrap64 (Int.tmod a0 14)) (wrap64 (Int.tmod a0 14)) false _ A45.out).mono ?_); rintro e w' ⟨rfl, ⟨nd, rfl⟩⟩) | (go_at_call 22; (with_reducible refine (req_Kind_Above.calls (wrap64 (Int.tmod a0 14)) 14 true _ A47.out).mono ?_); rintro e w' ⟨rfl, ⟨nd, rfl⟩⟩) | (go_at_call 22; (with_reducible refine (req_Kind_Above.calls 14 (wrap64 (Int.tmod a0 14)) t201 _ A49.out).mono ?_); rintro e w' ⟨rfl, ⟨nd, rfl⟩⟩))
          go_meet
          case rel => exact ⟨_, (t201), (by first | rfl | (simp; done) | (simp [*]; done)), H', ⟨by first | omega | exact Nat.le_refl _⟩, ⟨by repeat (first | (with_reducible first | exact HB.out | apply below_alloc | apply pw_below_drewN | apply below_drew1) | exact HB.out)⟩⟩
         ·
          replace c48 := Bool.eq_false_iff.mpr c48
          subst c48
          have H1 : (carousellaw12_ReqOrders.j0 k l3 true) = some r := by rw [if_neg (show ¬ (false = true) by decide)] at H; exact H
          clear H
          have H := H1
          clear H1
          have H' := Aside0.mk H
          clear H
          go_wp2_with (first | ((with_reducible refine gate_callee (f := 22) rfl ?_); refine goesL_ (some 30) rfl rfl Try.func22 (by kernel_rfl) rfl #[.int .i64 (wrap64 (Int.tmod a0 14)), .int .i64 (wrap64 (Int.tmod a1 14))] rfl (by (try simp only [List.map_toArray, List.map_cons, List.map_nil]); first | done | rfl | (simp only [List.length_drop, List.length_take]; rfl)) ?_; (with_reducible refine (req_Kind_Above.calls (wrap64 (Int.tmod a0 14)) (wrap64 (Int.tmod a1 14)) true _ A6.out).mono ?_); rintro e w' ⟨rfl, ⟨nd, rfl⟩⟩; refine ⟨_, rfl, ?_⟩) | (go_at_call 22; (with_reducible refine (req_Kind_Above.calls (wrap64 (Int.tmod a1 14)) (wrap64 (Int.tmod a0 14)) false _ A8.out).mono ?_); rintro e w' ⟨rfl, ⟨nd, rfl⟩⟩) | (go_at_call 22; (with_reducible refine (req_Kind_Above.calls (wrap64 (Int.tmod a0 14)) (wrap64 (Int.tmod a1 14)) true _ A32.out).mono ?_); rintro e w' ⟨rfl, ⟨nd, rfl⟩⟩) | (go_at_call 22; (with_reducible refine (req_Kind_Above.calls (wrap64 (Int.tmod a0 14)) (wrap64 (Int.tmod a1 14)) true _ A34.out).mono ?_); rintro e w' ⟨rfl, ⟨nd, rfl⟩⟩) | (go_at_call 22; (with_reducible refine (req_Kind_Above.calls (wrap64 (Int.tmod a1 14)) (wrap64 (Int.tmod a2 14)) false _ A36.out).mono ?_); rintro e w' ⟨rfl, ⟨nd, rfl⟩⟩) | (go_at_call 22; (with_reducible refine (req_Kind_Above.calls (wrap64 (Int.tmod a0 14)) (wrap64 (Int.tmod a0 14)) false _ A45.out).mono ?_); rintro e w' ⟨rfl, ⟨nd, rfl⟩⟩) | (go_at_call 22; (with_reducible refine (req_Kind_Above.calls (wrap64 (Int.tmod a0 14)) 14 false _ A47.out).mono ?_); rintro e w' ⟨rfl, ⟨nd, rfl⟩⟩))
          go_meet
          case rel => exact ⟨_, (true), (by first | rfl | (simp; done) | (simp [*]; done)), H', ⟨by first | omega | exact Nat.le_refl _⟩, ⟨by repeat (first | (with_reducible first | exact HB.out | apply below_alloc | apply pw_below_drewN | apply below_drew1) | exact HB.out)⟩⟩
      ·
       replace c35 := Bool.eq_false_iff.mpr c35
       subst c35
       exact absurd (Option.some.inj (A6.out.symm.trans A34.out)) (by decide)
     ·
      replace c33 := Bool.eq_false_iff.mpr c33
      subst c33
      exact absurd (Option.some.inj (A6.out.symm.trans A32.out)) (by decide)
  ·
   replace c7 := Bool.eq_false_iff.mpr c7
   subst c7
   have H1 : (if (wrap64 (Int.tmod a0 14)) = (wrap64 (Int.tmod a1 14)) then ((req_Kind_Above.f (wrap64 (Int.tmod a0 14)) (wrap64 (Int.tmod a1 14))).bind fun t218 => (if t218 = true then ((req_Kind_Above.f (wrap64 (Int.tmod a1 14)) (wrap64 (Int.tmod a2 14))).bind fun t219 => (if t219 = true then ((req_Kind_Above.f (wrap64 (Int.tmod a0 14)) (wrap64 (Int.tmod a2 14))).bind fun t220 => (if t220 = true then ((req_Kind_Above.f (wrap64 (Int.tmod a0 14)) (wrap64 (Int.tmod a0 14))).bind fun t221 => (if t221 = true then (carousellaw12_ReqOrders.j0 k l3 true) else ((req_Kind_Above.f (wrap64 (Int.tmod a0 14)) 14).bind fun t222 => (if t222 = true then ((req_Kind_Above.f 14 (wrap64 (Int.tmod a0 14))).bind fun t223 => (carousellaw12_ReqOrders.j0 k l3 t223)) else (carousellaw12_ReqOrders.j0 k l3 true))))) else (carousellaw12_ReqOrders.j0 k l3 true))) else ((req_Kind_Above.f (wrap64 (Int.tmod a0 14)) (wrap64 (Int.tmod a0 14))).bind fun t224 => (if t224 = true then (carousellaw12_ReqOrders.j0 k l3 true) else ((req_Kind_Above.f (wrap64 (Int.tmod a0 14)) 14).bind fun t225 => (if t225 = true then ((req_Kind_Above.f 14 (wrap64 (Int.tmod a0 14))).bind fun t226 => (carousellaw12_ReqOrders.j0 k l3 t226)) else (carousellaw12_ReqOrders.j0 k l3 true))))))) else ((req_Kind_Above.f (wrap64 (Int.tmod a0 14)) (wrap64 (Int.tmod a0 14))).bind fun t227 => (if t227 = true then (carousellaw12_ReqOrders.j0 k l3 true) else ((req_Kind_Above.f (wrap64 (Int.tmod a0 14)) 14).bind fun t228 => (if t228 = true then ((req_Kind_Above.f 14 (wrap64 (Int.tmod a0 14))).bind fun t229 => (carousellaw12_ReqOrders.j0 k l3 t229)) else (carousellaw12_ReqOrders.j0 k l3 true))))))) else ((req_Kind_Above.f (wrap64 (Int.tmod a0 14)) (wrap64 (Int.tmod a1 14))).bind fun t230 => (if t230 = true then ((req_Kind_Above.f (wrap64 (Int.tmod a0 14)) (wrap64 (Int.tmod a1 14))).bind fun t231 => (if t231 = true then ((req_Kind_Above.f (wrap64 (Int.tmod a1 14)) (wrap64 (Int.tmod a2 14))).bind fun t232 => (if t232 = true then ((req_Kind_Above.f (wrap64 (Int.tmod a0 14)) (wrap64 (Int.tmod a2 14))).bind fun t233 => (if t233 = true then ((req_Kind_Above.f (wrap64 (Int.tmod a0 14)) (wrap64 (Int.tmod a0 14))).bind fun t234 => (if t234 = true then (carousellaw12_ReqOrders.j0 k l3 true) else ((req_Kind_Above.f (wrap64 (Int.tmod a0 14)) 14).bind fun t235 => (if t235 = true then ((req_Kind_Above.f 14 (wrap64 (Int.tmod a0 14))).bind fun t236 => (carousellaw12_ReqOrders.j0 k l3 t236)) else (carousellaw12_ReqOrders.j0 k l3 true))))) else (carousellaw12_ReqOrders.j0 k l3 true))) else ((req_Kind_Above.f (wrap64 (Int.tmod a0 14)) (wrap64 (Int.tmod a0 14))).bind fun t237 => (if t237 = true then (carousellaw12_ReqOrders.j0 k l3 true) else ((req_Kind_Above.f (wrap64 (Int.tmod a0 14)) 14).bind fun t238 => (if t238 = true then ((req_Kind_Above.f 14 (wrap64 (Int.tmod a0 14))).bind fun t239 => (carousellaw12_ReqOrders.j0 k l3 t239)) else (carousellaw12_ReqOrders.j0 k l3 true))))))) else ((req_Kind_Above.f (wrap64 (Int.tmod a0 14)) (wrap64 (Int.tmod a0 14))).bind fun t240 => (if t240 = true then (carousellaw12_ReqOrders.j0 k l3 true) else ((req_Kind_Above.f (wrap64 (Int.tmod a0 14)) 14).bind fun t241 => (if t241 = true then ((req_Kind_Above.f 14 (wrap64 (Int.tmod a0 14))).bind fun t242 => (carousellaw12_ReqOrders.j0 k l3 t242)) else (carousellaw12_ReqOrders.j0 k l3 true))))))) else ((req_Kind_Above.f (wrap64 (Int.tmod a1 14)) (wrap64 (Int.tmod a0 14))).bind fun t243 => (if t243 = true then ((req_Kind_Above.f (wrap64 (Int.tmod a0 14)) (wrap64 (Int.tmod a1 14))).bind fun t244 => (if t244 = true then ((req_Kind_Above.f (wrap64 (Int.tmod a1 14)) (wrap64 (Int.tmod a2 14))).bind fun t245 => (if t245 = true then ((req_Kind_Above.f (wrap64 (Int.tmod a0 14)) (wrap64 (Int.tmod a2 14))).bind fun t246 => (if t246 = true then ((req_Kind_Above.f (wrap64 (Int.tmod a0 14)) (wrap64 (Int.tmod a0 14))).bind fun t247 => (if t247 = true then (carousellaw12_ReqOrders.j0 k l3 true) else ((req_Kind_Above.f (wrap64 (Int.tmod a0 14)) 14).bind fun t248 => (if t248 = true then ((req_Kind_Above.f 14 (wrap64 (Int.tmod a0 14))).bind fun t249 => (carousellaw12_ReqOrders.j0 k l3 t249)) else (carousellaw12_ReqOrders.j0 k l3 true))))) else (carousellaw12_ReqOrders.j0 k l3 true))) else ((req_Kind_Above.f (wrap64 (Int.tmod a0 14)) (wrap64 (Int.tmod a0 14))).bind fun t250 => (if t250 = true then (carousellaw12_ReqOrders.j0 k l3 true) else ((req_Kind_Above.f (wrap64 (Int.tmod a0 14)) 14).bind fun t251 => (if t251 = true then ((req_Kind_Above.f 14 (wrap64 (Int.tmod a0 14))).bind fun t252 => (carousellaw12_ReqOrders.j0 k l3 t252)) else (carousellaw12_ReqOrders.j0 k l3 true))))))) else ((req_Kind_Above.f (wrap64 (Int.tmod a0 14)) (wrap64 (Int.tmod a0 14))).bind fun t253 => (if t253 = true then (carousellaw12_ReqOrders.j0 k l3 true) else ((req_Kind_Above.f (wrap64 (Int.tmod a0 14)) 14).bind fun t254 => (if t254 = true then ((req_Kind_Above.f 14 (wrap64 (Int.tmod a0 14))).bind fun t255 => (carousellaw12_ReqOrders.j0 k l3 t255)) else (carousellaw12_ReqOrders.j0 k l3 true))))))) else (carousellaw12_ReqOrders.j0 k l3 true)))))) = some r := by rw [if_neg (show ¬ (false = true) by decide)] at H; exact H
   clear H
   have H := H1
   clear H1
   by_cases c78 : (wrap64 (Int.tmod a0 14)) = (wrap64 (Int.tmod a1 14))
   ·
    rw [if_pos c78] at H
    have c78b0 : ((wrap64 (Int.tmod a0 14)) == (wrap64 (Int.tmod a1 14))) = true := beq_iff_eq.mpr c78
    have c78b1 : ((wrap64 (Int.tmod a0 14)) != (wrap64 (Int.tmod a1 14))) = false := bne_eq_false_iff_eq.mpr c78
    clear c78
    replace H := Option.bind_eq_some_iff.mp H
    obtain ⟨t218, A790, H⟩ := H
    try dsimp only at H
    have A79 := Aside0.mk A790
    clear A790
    by_cases c80 : t218 = true
    ·
     subst c80
     exact absurd (Option.some.inj (A6.out.symm.trans A79.out)) (by decide)
    ·
     replace c80 := Bool.eq_false_iff.mpr c80
     subst c80
     have H1 : ((req_Kind_Above.f (wrap64 (Int.tmod a0 14)) (wrap64 (Int.tmod a0 14))).bind fun t227 => (if t227 = true then (carousellaw12_ReqOrders.j0 k l3 true) else ((req_Kind_Above.f (wrap64 (Int.tmod a0 14)) 14).bind fun t228 => (if t228 = true then ((req_Kind_Above.f 14 (wrap64 (Int.tmod a0 14))).bind fun t229 => (carousellaw12_ReqOrders.j0 k l3 t229)) else (carousellaw12_ReqOrders.j0 k l3 true))))) = some r := by rw [if_neg (show ¬ (false = true) by decide)] at H; exact H
     clear H
     have H := H1
     clear H1
     replace H := Option.bind_eq_some_iff.mp H
     obtain ⟨t227, A950, H⟩ := H
     try dsimp only at H
     have A95 := Aside0.mk A950
     clear A950
     by_cases c96 : t227 = true
     ·
      subst c96
      have H1 : (carousellaw12_ReqOrders.j0 k l3 true) = some r := by rw [if_pos rfl] at H; exact H
      clear H
      have H := H1
      clear H1
      have H' := Aside0.mk H
      clear H
      go_wp2_with (first | ((with_reducible refine gate_callee (f := 22) rfl ?_); refine goesL_ (some 30) rfl rfl Try.func22 (by kernel_rfl) rfl #[.int .i64 (wrap64 (Int.tmod a0 14)), .int .i64 (wrap64 (Int.tmod a1 14))] rfl (by (try simp only [List.map_toArray, List.map_cons, List.map_nil]); first | done | rfl | (simp only [List.length_drop, List.length_take]; rfl)) ?_; (with_reducible refine (req_Kind_Above.calls (wrap64 (Int.tmod a0 14)) (wrap64 (Int.tmod a1 14)) false _ A6.out).mono ?_); rintro e w' ⟨rfl, ⟨nd, rfl⟩⟩; refine ⟨_, rfl, ?_⟩) | (go_at_call 22; (with_reducible refine (req_Kind_Above.calls (wrap64 (Int.tmod a0 14)) (wrap64 (Int.tmod a1 14)) false _ A79.out).mono ?_); rintro e w' ⟨rfl, ⟨nd, rfl⟩⟩) | (go_at_call 22; (with_reducible refine (req_Kind_Above.calls (wrap64 (Int.tmod a0 14)) (wrap64 (Int.tmod a0 14)) true _ A95.out).mono ?_); rintro e w' ⟨rfl, ⟨nd, rfl⟩⟩))
      go_meet
      case rel => exact ⟨_, (true), (by first | rfl | (simp; done) | (simp [*]; done)), H', ⟨by first | omega | exact Nat.le_refl _⟩, ⟨by repeat (first | (with_reducible first | exact HB.out | apply below_alloc | apply pw_below_drewN | apply below_drew1) | exact HB.out)⟩⟩
     ·
      replace c96 := Bool.eq_false_iff.mpr c96
      subst c96
      have H1 : ((req_Kind_Above.f (wrap64 (Int.tmod a0 14)) 14).bind fun t228 => (if t228 = true then ((req_Kind_Above.f 14 (wrap64 (Int.tmod a0 14))).bind fun t229 => (carousellaw12_ReqOrders.j0 k l3 t229)) else (carousellaw12_ReqOrders.j0 k l3 true))) = some r := by rw [if_neg (show ¬ (false = true) by decide)] at H; exact H
      clear H
      have H := H1
      clear H1
      replace H := Option.bind_eq_some_iff.mp H
      obtain ⟨t228, A970, H⟩ := H
      try dsimp only at H
      have A97 := Aside0.mk A970
      clear A970
      by_cases c98 : t228 = true
      ·
       subst c98
       have H1 : ((req_Kind_Above.f 14 (wrap64 (Int.tmod a0 14))).bind fun t229 => (carousellaw12_ReqOrders.j0 k l3 t229)) = some r := by rw [if_pos rfl] at H; exact H
       clear H
       have H := H1
       clear H1
       replace H := Option.bind_eq_some_iff.mp H
       obtain ⟨t229, A990, H⟩ := H
       try dsimp only at H
       have A99 := Aside0.mk A990
       clear A990
       have H' := Aside0.mk H
       clear H
       go_wp2_with (first | ((with_reducible refine gate_callee (f := 22) rfl ?_); refine goesL_ (some 30) rfl rfl Try.func22 (by kernel_rfl) rfl #[.int .i64 (wrap64 (Int.tmod a0 14)), .int .i64 (wrap64 (Int.tmod a1 14))] rfl (by (try simp only [List.map_toArray, List.map_cons, List.map_nil]); first | done | rfl | (simp only [List.length_drop, List.length_take]; rfl)) ?_; (with_reducible refine (req_Kind_Above.calls (wrap64 (Int.tmod a0 14)) (wrap64 (Int.tmod a1 14)) false _ A6.out).mono ?_); rintro e w' ⟨rfl, ⟨nd, rfl⟩⟩; refine ⟨_, rfl, ?_⟩) | (go_at_call 22; (with_reducible refine (req_Kind_Above.calls (wrap64 (Int.tmod a0 14)) (wrap64 (Int.tmod a1 14)) false _ A79.out).mono ?_); rintro e w' ⟨rfl, ⟨nd, rfl⟩⟩) | (go_at_call 22; (with_reducible refine (req_Kind_Above.calls (wrap64 (Int.tmod a0 14)) (wrap64 (Int.tmod a0 14)) false _ A95.out).mono ?_); rintro e w' ⟨rfl, ⟨nd, rfl⟩⟩) | (go_at_call 22; (with_reducible refine (req_Kind_Above.calls (wrap64 (Int.tmod a0 14)) 14 true _ A97.out).mono ?_); rintro e w' ⟨rfl, ⟨nd, rfl⟩⟩) | (go_at_call 22; (with_reducible refine (req_Kind_Above.calls 14 (wrap64 (Int.tmod a0 14)) t229 _ A99.out).mono ?_); rintro e w' ⟨rfl, ⟨nd, rfl⟩⟩))
       go_meet
       case rel => exact ⟨_, (t229), (by first | rfl | (simp; done) | (simp [*]; done)), H', ⟨by first | omega | exact Nat.le_refl _⟩, ⟨by repeat (first | (with_reducible first | exact HB.out | apply below_alloc | apply pw_below_drewN | apply below_drew1) | exact HB.out)⟩⟩
      ·
       replace c98 := Bool.eq_false_iff.mpr c98
       subst c98
       have H1 : (carousellaw12_ReqOrders.j0 k l3 true) = some r := by rw [if_neg (show ¬ (false = true) by decide)] at H; exact H
       clear H
       have H := H1
       clear H1
       have H' := Aside0.mk H
       clear H
       go_wp2_with (first | ((with_reducible refine gate_callee (f := 22) rfl ?_); refine goesL_ (some 30) rfl rfl Try.func22 (by kernel_rfl) rfl #[.int .i64 (wrap64 (Int.tmod a0 14)), .int .i64 (wrap64 (Int.tmod a1 14))] rfl (by (try simp only [List.map_toArray, List.map_cons, List.map_nil]); first | done | rfl | (simp only [List.length_drop, List.length_take]; rfl)) ?_; (with_reducible refine (req_Kind_Above.calls (wrap64 (Int.tmod a0 14)) (wrap64 (Int.tmod a1 14)) false _ A6.out).mono ?_); rintro e w' ⟨rfl, ⟨nd, rfl⟩⟩; refine ⟨_, rfl, ?_⟩) | (go_at_call 22; (with_reducible refine (req_Kind_Above.calls (wrap64 (Int.tmod a0 14)) (wrap64 (Int.tmod a1 14)) false _ A79.out).mono ?_); rintro e w' ⟨rfl, ⟨nd, rfl⟩⟩) | (go_at_call 22; (with_reducible refine (req_Kind_Above.calls (wrap64 (Int.tmod a0 14)) (wrap64 (Int.tmod a0 14)) false _ A95.out).mono ?_); rintro e w' ⟨rfl, ⟨nd, rfl⟩⟩) | (go_at_call 22; (with_reducible refine (req_Kind_Above.calls (wrap64 (Int.tmod a0 14)) 14 false _ A97.out).mono ?_); rintro e w' ⟨rfl, ⟨nd, rfl⟩⟩))
       go_meet
       case rel => exact ⟨_, (true), (by first | rfl | (simp; done) | (simp [*]; done)), H', ⟨by first | omega | exact Nat.le_refl _⟩, ⟨by repeat (first | (with_reducible first | exact HB.out | apply below_alloc | apply pw_below_drewN | apply below_drew1) | exact HB.out)⟩⟩
   ·
    rw [if_neg c78] at H
    have c78b0 : ((wrap64 (Int.tmod a0 14)) == (wrap64 (Int.tmod a1 14))) = false := beq_eq_false_iff_ne.mpr c78
    have c78b1 : ((wrap64 (Int.tmod a0 14)) != (wrap64 (Int.tmod a1 14))) = true := bne_iff_ne.mpr c78
    replace H := Option.bind_eq_some_iff.mp H
    obtain ⟨t230, A1000, H⟩ := H
    try dsimp only at H
    have A100 := Aside0.mk A1000
    clear A1000
    by_cases c101 : t230 = true
    ·
     subst c101
     exact absurd (Option.some.inj (A6.out.symm.trans A100.out)) (by decide)
    ·
     replace c101 := Bool.eq_false_iff.mpr c101
     subst c101
     have H1 : ((req_Kind_Above.f (wrap64 (Int.tmod a1 14)) (wrap64 (Int.tmod a0 14))).bind fun t243 => (if t243 = true then ((req_Kind_Above.f (wrap64 (Int.tmod a0 14)) (wrap64 (Int.tmod a1 14))).bind fun t244 => (if t244 = true then ((req_Kind_Above.f (wrap64 (Int.tmod a1 14)) (wrap64 (Int.tmod a2 14))).bind fun t245 => (if t245 = true then ((req_Kind_Above.f (wrap64 (Int.tmod a0 14)) (wrap64 (Int.tmod a2 14))).bind fun t246 => (if t246 = true then ((req_Kind_Above.f (wrap64 (Int.tmod a0 14)) (wrap64 (Int.tmod a0 14))).bind fun t247 => (if t247 = true then (carousellaw12_ReqOrders.j0 k l3 true) else ((req_Kind_Above.f (wrap64 (Int.tmod a0 14)) 14).bind fun t248 => (if t248 = true then ((req_Kind_Above.f 14 (wrap64 (Int.tmod a0 14))).bind fun t249 => (carousellaw12_ReqOrders.j0 k l3 t249)) else (carousellaw12_ReqOrders.j0 k l3 true))))) else (carousellaw12_ReqOrders.j0 k l3 true))) else ((req_Kind_Above.f (wrap64 (Int.tmod a0 14)) (wrap64 (Int.tmod a0 14))).bind fun t250 => (if t250 = true then (carousellaw12_ReqOrders.j0 k l3 true) else ((req_Kind_Above.f (wrap64 (Int.tmod a0 14)) 14).bind fun t251 => (if t251 = true then ((req_Kind_Above.f 14 (wrap64 (Int.tmod a0 14))).bind fun t252 => (carousellaw12_ReqOrders.j0 k l3 t252)) else (carousellaw12_ReqOrders.j0 k l3 true))))))) else ((req_Kind_Above.f (wrap64 (Int.tmod a0 14)) (wrap64 (Int.tmod a0 14))).bind fun t253 => (if t253 = true then (carousellaw12_ReqOrders.j0 k l3 true) else ((req_Kind_Above.f (wrap64 (Int.tmod a0 14)) 14).bind fun t254 => (if t254 = true then ((req_Kind_Above.f 14 (wrap64 (Int.tmod a0 14))).bind fun t255 => (carousellaw12_ReqOrders.j0 k l3 t255)) else (carousellaw12_ReqOrders.j0 k l3 true))))))) else (carousellaw12_ReqOrders.j0 k l3 true))) = some r := by rw [if_neg (show ¬ (false = true) by decide)] at H; exact H
     clear H
     have H := H1
     clear H1
     replace H := Option.bind_eq_some_iff.mp H
     obtain ⟨t243, A1230, H⟩ := H
     try dsimp only at H
     have A123 := Aside0.mk A1230
     clear A1230
     by_cases c124 : t243 = true
     ·
      subst c124
      have H1 : ((req_Kind_Above.f (wrap64 (Int.tmod a0 14)) (wrap64 (Int.tmod a1 14))).bind fun t244 => (if t244 = true then ((req_Kind_Above.f (wrap64 (Int.tmod a1 14)) (wrap64 (Int.tmod a2 14))).bind fun t245 => (if t245 = true then ((req_Kind_Above.f (wrap64 (Int.tmod a0 14)) (wrap64 (Int.tmod a2 14))).bind fun t246 => (if t246 = true then ((req_Kind_Above.f (wrap64 (Int.tmod a0 14)) (wrap64 (Int.tmod a0 14))).bind fun t247 => (if t247 = true then (carousellaw12_ReqOrders.j0 k l3 true) else ((req_Kind_Above.f (wrap64 (Int.tmod a0 14)) 14).bind fun t248 => (if t248 = true then ((req_Kind_Above.f 14 (wrap64 (Int.tmod a0 14))).bind fun t249 => (carousellaw12_ReqOrders.j0 k l3 t249)) else (carousellaw12_ReqOrders.j0 k l3 true))))) else (carousellaw12_ReqOrders.j0 k l3 true))) else ((req_Kind_Above.f (wrap64 (Int.tmod a0 14)) (wrap64 (Int.tmod a0 14))).bind fun t250 => (if t250 = true then (carousellaw12_ReqOrders.j0 k l3 true) else ((req_Kind_Above.f (wrap64 (Int.tmod a0 14)) 14).bind fun t251 => (if t251 = true then ((req_Kind_Above.f 14 (wrap64 (Int.tmod a0 14))).bind fun t252 => (carousellaw12_ReqOrders.j0 k l3 t252)) else (carousellaw12_ReqOrders.j0 k l3 true))))))) else ((req_Kind_Above.f (wrap64 (Int.tmod a0 14)) (wrap64 (Int.tmod a0 14))).bind fun t253 => (if t253 = true then (carousellaw12_ReqOrders.j0 k l3 true) else ((req_Kind_Above.f (wrap64 (Int.tmod a0 14)) 14).bind fun t254 => (if t254 = true then ((req_Kind_Above.f 14 (wrap64 (Int.tmod a0 14))).bind fun t255 => (carousellaw12_ReqOrders.j0 k l3 t255)) else (carousellaw12_ReqOrders.j0 k l3 true))))))) = some r := by rw [if_pos rfl] at H; exact H
      clear H
      have H := H1
      clear H1
      replace H := Option.bind_eq_some_iff.mp H
      obtain ⟨t244, A1250, H⟩ := H
      try dsimp only at H
      have A125 := Aside0.mk A1250
      clear A1250
      by_cases c126 : t244 = true
      ·
       subst c126
       exact absurd (Option.some.inj (A6.out.symm.trans A125.out)) (by decide)
      ·
       replace c126 := Bool.eq_false_iff.mpr c126
       subst c126
       have H1 : ((req_Kind_Above.f (wrap64 (Int.tmod a0 14)) (wrap64 (Int.tmod a0 14))).bind fun t253 => (if t253 = true then (carousellaw12_ReqOrders.j0 k l3 true) else ((req_Kind_Above.f (wrap64 (Int.tmod a0 14)) 14).bind fun t254 => (if t254 = true then ((req_Kind_Above.f 14 (wrap64 (Int.tmod a0 14))).bind fun t255 => (carousellaw12_ReqOrders.j0 k l3 t255)) else (carousellaw12_ReqOrders.j0 k l3 true))))) = some r := by rw [if_neg (show ¬ (false = true) by decide)] at H; exact H
       clear H
       have H := H1
       clear H1
       replace H := Option.bind_eq_some_iff.mp H
       obtain ⟨t253, A1410, H⟩ := H
       try dsimp only at H
       have A141 := Aside0.mk A1410
       clear A1410
       by_cases c142 : t253 = true
       ·
        subst c142
        have H1 : (carousellaw12_ReqOrders.j0 k l3 true) = some r := by rw [if_pos rfl] at H; exact H
        clear H
        have H := H1
        clear H1
        have H' := Aside0.mk H
        clear H
        go_wp2_with (first | ((with_reducible refine gate_callee (f := 22) rfl ?_); refine goesL_ (some 30) rfl rfl Try.func22 (by kernel_rfl) rfl #[.int .i64 (wrap64 (Int.tmod a0 14)), .int .i64 (wrap64 (Int.tmod a1 14))] rfl (by (try simp only [List.map_toArray, List.map_cons, List.map_nil]); first | done | rfl | (simp only [List.length_drop, List.length_take]; rfl)) ?_; (with_reducible refine (req_Kind_Above.calls (wrap64 (Int.tmod a0 14)) (wrap64 (Int.tmod a1 14)) false _ A6.out).mono ?_); rintro e w' ⟨rfl, ⟨nd, rfl⟩⟩; refine ⟨_, rfl, ?_⟩) | (go_at_call 22; (with_reducible refine (req_Kind_Above.calls (wrap64 (Int.tmod a0 14)) (wrap64 (Int.tmod a1 14)) false _ A100.out).mono ?_); rintro e w' ⟨rfl, ⟨nd, rfl⟩⟩) | (go_at_call 22; (with_reducible refine (req_Kind_Above.calls (wrap64 (Int.tmod a1 14)) (wrap64 (Int.tmod a0 14)) true _ A123.out).mono ?_); rintro e w' ⟨rfl, ⟨nd, rfl⟩⟩) | (go_at_call 22; (with_reducible refine (req_Kind_Above.calls (wrap64 (Int.tmod a0 14)) (wrap64 (Int.tmod a1 14)) false _ A125.out).mono ?_); rintro e w' ⟨rfl, ⟨nd, rfl⟩⟩) | (go_at_call 22; (with_reducible refine (req_Kind_Above.calls (wrap64 (Int.tmod a0 14)) (wrap64 (Int.tmod a0 14)) true _ A141.out).mono ?_); rintro e w' ⟨rfl, ⟨nd, rfl⟩⟩))
        go_meet
        case rel => exact ⟨_, (true), (by first | rfl | (simp; done) | (simp [*]; done)), H', ⟨by first | omega | exact Nat.le_refl _⟩, ⟨by repeat (first | (with_reducible first | exact HB.out | apply below_alloc | apply pw_below_drewN | apply below_drew1) | exact HB.out)⟩⟩
       ·
        replace c142 := Bool.eq_false_iff.mpr c142
        subst c142
        have H1 : ((req_Kind_Above.f (wrap64 (Int.tmod a0 14)) 14).bind fun t254 => (if t254 = true then ((req_Kind_Above.f 14 (wrap64 (Int.tmod a0 14))).bind fun t255 => (carousellaw12_ReqOrders.j0 k l3 t255)) else (carousellaw12_ReqOrders.j0 k l3 true))) = some r := by rw [if_neg (show ¬ (false = true) by decide)] at H; exact H
        clear H
        have H := H1
        clear H1
        replace H := Option.bind_eq_some_iff.mp H
        obtain ⟨t254, A1430, H⟩ := H
        try dsimp only at H
        have A143 := Aside0.mk A1430
        clear A1430
        by_cases c144 : t254 = true
        ·
         subst c144
         have H1 : ((req_Kind_Above.f 14 (wrap64 (Int.tmod a0 14))).bind fun t255 => (carousellaw12_ReqOrders.j0 k l3 t255)) = some r := by rw [if_pos rfl] at H; exact H
         clear H
         have H := H1
         clear H1
         replace H := Option.bind_eq_some_iff.mp H
         obtain ⟨t255, A1450, H⟩ := H
         try dsimp only at H
         have A145 := Aside0.mk A1450
         clear A1450
         have H' := Aside0.mk H
         clear H
         go_wp2_with (first | ((with_reducible refine gate_callee (f := 22) rfl ?_); refine goesL_ (some 30) rfl rfl Try.func22 (by kernel_rfl) rfl #[.int .i64 (wrap64 (Int.tmod a0 14)), .int .i64 (wrap64 (Int.tmod a1 14))] rfl (by (try simp only [List.map_toArray, List.map_cons, List.map_nil]); first | done | rfl | (simp only [List.length_drop, List.length_take]; rfl)) ?_; (with_reducible refine (req_Kind_Above.calls (wrap64 (Int.tmod a0 14)) (wrap64 (Int.tmod a1 14)) false _ A6.out).mono ?_); rintro e w' ⟨rfl, ⟨nd, rfl⟩⟩; refine ⟨_, rfl, ?_⟩) | (go_at_call 22; (with_reducible refine (req_Kind_Above.calls (wrap64 (Int.tmod a0 14)) (wrap64 (Int.tmod a1 14)) false _ A100.out).mono ?_); rintro e w' ⟨rfl, ⟨nd, rfl⟩⟩) | (go_at_call 22; (with_reducible refine (req_Kind_Above.calls (wrap64 (Int.tmod a1 14)) (wrap64 (Int.tmod a0 14)) true _ A123.out).mono ?_); rintro e w' ⟨rfl, ⟨nd, rfl⟩⟩) | (go_at_call 22; (with_reducible refine (req_Kind_Above.calls (wrap64 (Int.tmod a0 14)) (wrap64 (Int.tmod a1 14)) false _ A125.out).mono ?_); rintro e w' ⟨rfl, ⟨nd, rfl⟩⟩) | (go_at_call 22; (with_reducible refine (req_Kind_Above.calls (wrap64 (Int.tmod a0 14)) (wrap64 (Int.tmod a0 14)) false _ A141.out).mono ?_); rintro e w' ⟨rfl, ⟨nd, rfl⟩⟩) | (go_at_call 22; (with_reducible refine (req_Kind_Above.calls (wrap64 (Int.tmod a0 14)) 14 true _ A143.out).mono ?_); rintro e w' ⟨rfl, ⟨nd, rfl⟩⟩) | (go_at_call 22; (with_reducible refine (req_Kind_Above.calls 14 (wrap64 (Int.tmod a0 14)) t255 _ A145.out).mono ?_); rintro e w' ⟨rfl, ⟨nd, rfl⟩⟩))
         go_meet
         case rel => exact ⟨_, (t255), (by first | rfl | (simp; done) | (simp [*]; done)), H', ⟨by first | omega | exact Nat.le_refl _⟩, ⟨by repeat (first | (with_reducible first | exact HB.out | apply below_alloc | apply pw_below_drewN | apply below_drew1) | exact HB.out)⟩⟩
        ·
         replace c144 := Bool.eq_false_iff.mpr c144
         subst c144
         have H1 : (carousellaw12_ReqOrders.j0 k l3 true) = some r := by rw [if_neg (show ¬ (false = true) by decide)] at H; exact H
         clear H
         have H := H1
         clear H1
         have H' := Aside0.mk H
         clear H
         go_wp2_with (first | ((with_reducible refine gate_callee (f := 22) rfl ?_); refine goesL_ (some 30) rfl rfl Try.func22 (by kernel_rfl) rfl #[.int .i64 (wrap64 (Int.tmod a0 14)), .int .i64 (wrap64 (Int.tmod a1 14))] rfl (by (try simp only [List.map_toArray, List.map_cons, List.map_nil]); first | done | rfl | (simp only [List.length_drop, List.length_take]; rfl)) ?_; (with_reducible refine (req_Kind_Above.calls (wrap64 (Int.tmod a0 14)) (wrap64 (Int.tmod a1 14)) false _ A6.out).mono ?_); rintro e w' ⟨rfl, ⟨nd, rfl⟩⟩; refine ⟨_, rfl, ?_⟩) | (go_at_call 22; (with_reducible refine (req_Kind_Above.calls (wrap64 (Int.tmod a0 14)) (wrap64 (Int.tmod a1 14)) false _ A100.out).mono ?_); rintro e w' ⟨rfl, ⟨nd, rfl⟩⟩) | (go_at_call 22; (with_reducible refine (req_Kind_Above.calls (wrap64 (Int.tmod a1 14)) (wrap64 (Int.tmod a0 14)) true _ A123.out).mono ?_); rintro e w' ⟨rfl, ⟨nd, rfl⟩⟩) | (go_at_call 22; (with_reducible refine (req_Kind_Above.calls (wrap64 (Int.tmod a0 14)) (wrap64 (Int.tmod a1 14)) false _ A125.out).mono ?_); rintro e w' ⟨rfl, ⟨nd, rfl⟩⟩) | (go_at_call 22; (with_reducible refine (req_Kind_Above.calls (wrap64 (Int.tmod a0 14)) (wrap64 (Int.tmod a0 14)) false _ A141.out).mono ?_); rintro e w' ⟨rfl, ⟨nd, rfl⟩⟩) | (go_at_call 22; (with_reducible refine (req_Kind_Above.calls (wrap64 (Int.tmod a0 14)) 14 false _ A143.out).mono ?_); rintro e w' ⟨rfl, ⟨nd, rfl⟩⟩))
         go_meet
         case rel => exact ⟨_, (true), (by first | rfl | (simp; done) | (simp [*]; done)), H', ⟨by first | omega | exact Nat.le_refl _⟩, ⟨by repeat (first | (with_reducible first | exact HB.out | apply below_alloc | apply pw_below_drewN | apply below_drew1) | exact HB.out)⟩⟩
     ·
      replace c124 := Bool.eq_false_iff.mpr c124
      subst c124
      have H1 : (carousellaw12_ReqOrders.j0 k l3 true) = some r := by rw [if_neg (show ¬ (false = true) by decide)] at H; exact H
      clear H
      have H := H1
      clear H1
      have H' := Aside0.mk H
      clear H
      go_wp2_with (first | ((with_reducible refine gate_callee (f := 22) rfl ?_); refine goesL_ (some 30) rfl rfl Try.func22 (by kernel_rfl) rfl #[.int .i64 (wrap64 (Int.tmod a0 14)), .int .i64 (wrap64 (Int.tmod a1 14))] rfl (by (try simp only [List.map_toArray, List.map_cons, List.map_nil]); first | done | rfl | (simp only [List.length_drop, List.length_take]; rfl)) ?_; (with_reducible refine (req_Kind_Above.calls (wrap64 (Int.tmod a0 14)) (wrap64 (Int.tmod a1 14)) false _ A6.out).mono ?_); rintro e w' ⟨rfl, ⟨nd, rfl⟩⟩; refine ⟨_, rfl, ?_⟩) | (go_at_call 22; (with_reducible refine (req_Kind_Above.calls (wrap64 (Int.tmod a0 14)) (wrap64 (Int.tmod a1 14)) false _ A100.out).mono ?_); rintro e w' ⟨rfl, ⟨nd, rfl⟩⟩) | (go_at_call 22; (with_reducible refine (req_Kind_Above.calls (wrap64 (Int.tmod a1 14)) (wrap64 (Int.tmod a0 14)) false _ A123.out).mono ?_); rintro e w' ⟨rfl, ⟨nd, rfl⟩⟩))
      go_meet
      case rel => exact ⟨_, (true), (by first | rfl | (simp; done) | (simp [*]; done)), H', ⟨by first | omega | exact Nat.le_refl _⟩, ⟨by repeat (first | (with_reducible first | exact HB.out | apply below_alloc | apply pw_below_drewN | apply below_drew1) | exact HB.out)⟩⟩
 case rest =>
  clear HC5
  try clear c1
  try clear c2
  try clear p2
  try clear p6
  try clear c7
  try clear c8
  try clear c9
  try clear c10
  try clear c11
  try clear c12
  try clear c13
  try clear c14
  try clear c22
  try clear p64
  try clear c78
  try clear c78b0
  try clear c78b1
  try clear c80
  try clear c82
  try clear c91
  try clear c93
  try clear c96
  try clear c98
  try clear c101
  try clear c103
  try clear c105
  try clear c107
  try clear c109
  try clear c111
  try clear c114
  try clear c116
  try clear c119
  try clear c121
  try clear c124
  try clear c126
  try clear c128
  try clear c130
  try clear c132
  try clear c134
  try clear c137
  try clear c139
  try clear c142
  try clear c144
  obtain ⟨kq, x82_4, rfl, HA, HJ4, HB⟩ := hcut
  cases kq with
  | zero => exact absurd HA.out (by simp [carousellaw12_ReqOrders.j0])
  | succ kj4 =>
   have H := HA.out
   clear HA
   simp only [carousellaw12_ReqOrders.j0] at H
   by_cases c146 : x82_4 = true
   ·
    subst c146
    have H1 : (some false) = some r := by rw [if_pos rfl] at H; exact H
    clear H
    have H := H1
    clear H1
    cases (Option.some.inj H).trans hT
   ·
    replace c146 := Bool.eq_false_iff.mpr c146
    subst c146
    have H1 : (if (l3.length : Int) = 0 then (carousellaw12_ReqOrders.j1 kj4 l3 true) else (carousellaw12_ReqOrders.j1 kj4 l3 (decide ((l3.length : Int) > 60)))) = some r := by rw [if_neg (show ¬ (false = true) by decide)] at H; exact H
    clear H
    have H := H1
    clear H1
    have HC147 := Aside0.mk H
    clear H
    go_upto_region 4 with (fail)
    go_cut [90] (fun v90 wc => ∃ (kq : Nat) (x90_146 : Bool), v90 = .bool x90_146 ∧ Aside0 (carousellaw12_ReqOrders.j1 kq l3 x90_146 = some r) ∧ Aside0 (kq ≤ kj4) ∧ Aside0 (Below w.heap.size w wc))
    case first =>
     have H := HC147.out
     clear HC147
     by_cases c148 : (l3.length : Int) = 0
     ·
      rw [if_pos c148] at H
      have c148b0 : ((l3.length : Int) == 0) = true := beq_iff_eq.mpr c148
      have c148b1 : ((l3.length : Int) != 0) = false := bne_eq_false_iff_eq.mpr c148
      clear c148
      (first | rw [c148b0] | (simp only [i64_w, i32_w]; rw [c148b0]) | skip)
      have H' := Aside0.mk H
      clear H
      go_wp2
      go_meet
      case rel => exact ⟨_, (true), (by first | rfl | (simp; done) | (simp [*]; done)), H', ⟨by have := HJ4.out; first | omega | exact Nat.le_refl _⟩, ⟨by repeat (first | (with_reducible first | exact HB.out | apply below_alloc | apply pw_below_drewN | apply below_drew1) | exact HB.out)⟩⟩
     ·
      rw [if_neg c148] at H
      have c148b0 : ((l3.length : Int) == 0) = false := beq_eq_false_iff_ne.mpr c148
      have c148b1 : ((l3.length : Int) != 0) = true := bne_iff_ne.mpr c148
      have c148b2 : ¬ (l3 = []) := fun h_ => c148 (by rw [h_]; rfl)
      (first | rw [c148b0] | (simp only [i64_w, i32_w]; rw [c148b0]) | skip)
      have H' := Aside0.mk H
      clear H
      go_wp2
      go_meet
      case rel => exact ⟨_, (decide ((l3.length : Int) > 60)), (by first | rfl | (simp; done) | (simp [*]; done)), H', ⟨by have := HJ4.out; first | omega | exact Nat.le_refl _⟩, ⟨by repeat (first | (with_reducible first | exact HB.out | apply below_alloc | apply pw_below_drewN | apply below_drew1) | exact HB.out)⟩⟩
    case rest =>
     clear HC147
     try clear c1
     try clear c2
     try clear p2
     try clear p6
     try clear c7
     try clear c8
     try clear c9
     try clear c10
     try clear c11
     try clear c12
     try clear c13
     try clear c14
     try clear c22
     try clear p64
     try clear c78
     try clear c78b0
     try clear c78b1
     try clear c80
     try clear c82
     try clear c91
     try clear c93
     try clear c96
     try clear c98
     try clear c101
     try clear c103
     try clear c105
     try clear c107
     try clear c109
     try clear c111
     try clear c114
     try clear c116
     try clear c119
     try clear c121
     try clear c124
     try clear c126
     try clear c128
     try clear c130
     try clear c132
     try clear c134
     try clear c137
     try clear c139
     try clear c142
     try clear c144
     try clear c146
     try clear c148
     try clear c148b0
     try clear c148b1
     try clear c148b2
     try clear p2
     try clear p6
     try clear p64
     obtain ⟨kq, x90_146, rfl, HA, HJ146, HB⟩ := hcut
     cases kq with
     | zero => exact absurd HA.out (by simp [carousellaw12_ReqOrders.j1])
     | succ kj146 =>
      have H := HA.out
      clear HA
      simp only [carousellaw12_ReqOrders.j1] at H
      by_cases c149 : x90_146 = true
      ·
       subst c149
       have H1 : ((carousellaw12_Awake.f kj146).bind fun t256 => (if t256 = true then ((req_Best.f kj146 ([] : List Int)).bind fun t257 => (some (t257 == 14))) else (some false))) = some r := by rw [if_pos rfl] at H; exact H
       clear H
       have H := H1
       clear H1
       replace H := Option.bind_eq_some_iff.mp H
       obtain ⟨t256, A1500, H⟩ := H
       try dsimp only at H
       have A150 := Aside0.mk A1500
       clear A1500
       by_cases c151 : t256 = true
       ·
        subst c151
        have H1 : ((req_Best.f kj146 ([] : List Int)).bind fun t257 => (some (t257 == 14))) = some r := by rw [if_pos rfl] at H; exact H
        clear H
        have H := H1
        clear H1
        replace H := Option.bind_eq_some_iff.mp H
        obtain ⟨t257, A1520, H⟩ := H
        replace H : (some (t257 == 14)) = some r := H
        have A152 := Aside0.mk A1520
        clear A1520
        obtain rfl := Option.some.inj H
        go_wp2_with (first | ((with_reducible refine gate_callee (f := 23) rfl ?_); refine goesL_ (some 91) rfl rfl Try.func23 (by kernel_rfl) rfl #[] rfl (by (try simp only [List.map_toArray, List.map_cons, List.map_nil]); first | done | rfl | (simp only [List.length_drop, List.length_take]; rfl)) ?_; (with_reducible refine (carousellaw12_Awake.calls kj146  true _ A150.out).mono ?_); rintro e w153 ⟨rfl, hb⟩; refine ⟨_, rfl, ?_⟩; have n0_ := Aside0.mk (below_step (by repeat (first | (with_reducible first | exact HB.out | apply below_alloc | apply pw_below_drewN | apply below_drew1) | exact HB.out)) hb); clear HB; have HB := n0_; clear n0_; (try clear hb); (try clear hb2); (try clear hk); (try clear hi)) | (go_at_call 24; (refine (req_Best.calls kj146 _ _ ([] : List Int) t257 _ ?side1 ?side2 A152.out).mono ?_); (case side1 => exact Kd.C_nil _ _); (case side2 => exact Nat.le_refl _); rintro e w' ⟨rfl, ⟨nd, rfl⟩⟩))
        go_ret
        exact ⟨by first | rfl | (simp [errW_none, errW_some] <;> rfl) | (simp [*, errW_none, errW_some] <;> rfl), by repeat (first | (with_reducible first | exact HB.out | apply below_alloc | apply pw_below_drewN | apply below_drew1) | exact HB.out)⟩
       ·
        replace c151 := Bool.eq_false_iff.mpr c151
        subst c151
        have H1 : (some false) = some r := by rw [if_neg (show ¬ (false = true) by decide)] at H; exact H
        clear H
        have H := H1
        clear H1
        cases (Option.some.inj H).trans hT
      ·
       replace c149 := Bool.eq_false_iff.mpr c149
       subst c149
       have H1 : (carousellaw12_ReqOrders.l0 kj146 ([] : List Int) l3 (l3.length : Int) 0) = some r := by rw [if_neg (show ¬ (false = true) by decide)] at H; exact H
       clear H
       have H := H1
       clear H1
       have H' := Aside0.mk H
       clear H
       go_wp2
       go_loopg [12, 98] kj146 (fun kq v12 v98 w' => ∃ (x12_3 : List Int) (x98_3 : Int), v98 = .int .i64 x98_3 ∧ Aside0 (carousellaw12_ReqOrders.l0 kq x12_3 l3 (l3.length : Int) x98_3 = some r) ∧ Aside0 (kq ≤ kj146) ∧ Aside0 (Kd.R (Kd.int .i64) 61 w' w.heap.size (fun _ => True) v12 x12_3) ∧ Aside0 (Below w.heap.size w w'))
       case atStart => exact ⟨(([] : List Int)), (0), (by first | rfl | (simp; done) | (simp [*]; done)), H', ⟨Nat.le_refl _⟩, ⟨by first | exact Kd.R_nil _ _ _ _ _ | exact Kd.N_nil _ _ _ _ _ | exact Kd.V_nil _ _ _ _ _ | exact Kd.Q_nil _ _ _ _ _ | exact Kd.S_nil _ _ _ _ _⟩, ⟨by repeat (first | (with_reducible first | exact HB.out | apply below_alloc | apply pw_below_drewN | apply below_drew1) | exact HB.out)⟩⟩
       case round =>
        clear H'
        try clear c1
        try clear c2
        try clear p2
        try clear p6
        try clear c7
        try clear c8
        try clear c9
        try clear c10
        try clear c11
        try clear c12
        try clear c13
        try clear c14
        try clear c15
        try clear c22
        try clear c23
        try clear p64
        try clear c78
        try clear c78b0
        try clear c78b1
        try clear c80
        try clear c82
        try clear c91
        try clear c93
        try clear c96
        try clear c98
        try clear c101
        try clear c103
        try clear c105
        try clear c107
        try clear c109
        try clear c111
        try clear c114
        try clear c116
        try clear c119
        try clear c121
        try clear c124
        try clear c126
        try clear c128
        try clear c130
        try clear c132
        try clear c134
        try clear c137
        try clear c139
        try clear c142
        try clear c144
        try clear c146
        try clear c148
        try clear c148b0
        try clear c148b1
        try clear c148b2
        try clear c149
        try clear c151
        try clear p2
        try clear p6
        try clear p64
        obtain ⟨x12_3, x98_3, rfl, HA, HK3, HO_12, HB⟩ := hrel
        cases gk with
        | zero => exact absurd HA.out (by simp [carousellaw12_ReqOrders.l0])
        | succ k3 =>
         have H := HA.out
         clear HA
         simp only [carousellaw12_ReqOrders.l0] at H
         by_cases c154 : x98_3 < (l3.length : Int)
         ·
          rw [if_pos c154] at H
          have c154b0 : decide (x98_3 < (l3.length : Int)) = true := decide_eq_true c154
          clear c154
          by_cases c155 : 0 ≤ x98_3
          ·
           rw [if_pos c155] at H
           have c155b0 : decide (0 ≤ x98_3) = true := decide_eq_true c155
           clear c155
           by_cases c156 : x98_3 < (l3.length : Int)
           ·
            rw [if_pos c156] at H
            have c156b0 : decide (x98_3 < (l3.length : Int)) = true := decide_eq_true c156
            clear c156
            by_cases c157 : x12_3.length < 17592186044416
            ·
             rw [if_pos c157] at H
             have LMc157 := Aside0.mk c157
             clear c157
             obtain ⟨y259, hy259⟩ : ∃ y_ : List Int, y_ = (x12_3 ++ [wrap64 (Int.tmod (rd l3 x98_3) 14)]) := ⟨_, rfl⟩
             replace H : (carousellaw12_ReqOrders.l0 k3 y259 l3 (l3.length : Int) (wrap64 (x98_3 + 1))) = some r := by first | (rw [hy259]; with_reducible exact H) | (have H2_ := (Option.bind_some _ _).symm.trans H; rw [hy259]; with_reducible exact H2_) | (have H2_ := (Option.bind_some _ _).symm.trans H; with_reducible exact H2_) | with_reducible exact H | (rw [hy259]; exact H) | exact H
             have Ny259 := Aside0.mk hy259
             clear hy259
             have H' := Aside0.mk H
             clear H
             have p258 : 0 ≤ (x98_3 : Int) := of_decide_eq_true (by first | (with_reducible assumption) | assumption)
             have q258 : x98_3 < (l3.length : Int) := of_decide_eq_true (by first | (with_reducible assumption) | assumption)
             obtain ⟨ad258, e258, hx258_0⟩ := Kd.at_int HR3.out x98_3 p258 q258
             cases e258
             replace hx258_0 := (HB.out.cell (World.block_lt_of_cell? w _ hx258_0)).trans hx258_0
             replace p258 := eq_true p258
             replace q258 := eq_true q258
             go_wp2_with (first | ((with_reducible refine gate_builtin (b := .append) (xs := #[.tmp 102, .tmp 106]) rfl ?_); (try (refine gate_guard (by rfl) ?_; dsimp only)); at_builtin; refine Kd.R_append (Kd.int .i64) (w0 := w) w.heap.size rfl (.tmp 102) (.tmp 106) 64 61 (.int .i64 0) 8 rfl Try.underlying64 info61 rfl (by decide) (by omega) u12 x12_3 (wrap64 (Int.tmod (rd l3 x98_3) 14)) [.int .i64 (wrap64 (Int.tmod (rd l3 x98_3) 14))] (fun _ => True) (fun _ => False) rfl rfl ?aP (fun _ hk => hk.elim) ?aF ?aO ?aB ?aS ?aL ?_; (case aP => exact rfl); (case aB => exact (by repeat (first | (with_reducible first | exact HB.out | apply below_alloc | apply pw_below_drewN | apply below_drew1) | exact HB.out))); (case aF => exact (fun _ _ => trivial)); (case aO => exact (by (with_reducible repeat (first | apply Kd.R_alloc | apply Kd.R_drewN | apply Kd.R_drew)); exact HO_12.out)); (case aS => exact (below_size (by repeat (first | (with_reducible first | exact HB.out | apply below_alloc | apply pw_below_drewN | apply below_drew1) | exact HB.out)))); (case aL => have := LMc157.out; omega); intro v260 w158 ho hb hg hat; rw [← Ny259.out] at ho; have n0_ := Aside0.mk (hb); have n1_ := Aside0.mk (ho); clear HB; clear HO_12; have HB := n0_; have HO261 := n1_; clear n0_ n1_; clear ho hb hg hat))
             go_roundg k3
             case measure => have := HJ4.out; have := HJ146.out; have := HK3.out; omega
             case rel => exact ⟨(y259), (wrap64 (x98_3 + 1)), (by first | rfl | (simp; done) | (simp [*]; done)), H', ⟨by have := HJ4.out; have := HJ146.out; have := HK3.out; omega⟩, ⟨by (with_reducible repeat (first | apply Kd.R_alloc | apply Kd.R_drewN | apply Kd.R_drew)); exact HO261.out⟩, ⟨by repeat (first | (with_reducible first | exact HB.out | apply below_alloc | apply pw_below_drewN | apply below_drew1) | exact HB.out)⟩⟩
            ·
             rw [if_neg c157] at H
             exact absurd H (by simp)
           ·
            rw [if_neg c156] at H
            exact absurd H (by simp)
          ·
           rw [if_neg c155] at H
           exact absurd H (by simp)
         ·
          rw [if_neg c154] at H
          have c154b0 : decide (x98_3 < (l3.length : Int)) = false := decide_eq_false c154
          clear c154
          replace H := Option.bind_eq_some_iff.mp H
          obtain ⟨t262, A1590, H⟩ := H
          try dsimp only at H
          have A159 := Aside0.mk A1590
          clear A1590
          have H' := Aside0.mk H
          clear H
          obtain ⟨Ao160, co160, eo160⟩ := Kd.R_slice HO_12.out
          subst eo160
          go_wp2_with (first | ((with_reducible refine gate_callee (f := 24) rfl ?_); refine goesL_ (some 110) rfl rfl Try.func24 (by kernel_rfl) rfl #[.slice Ao160 x12_3.length co160] rfl (by (try simp only [List.map_toArray, List.map_cons, List.map_nil]); first | done | rfl | (simp only [List.length_drop, List.length_take]; rfl)) ?_; (with_reducible refine (req_Best.calls k3 _ _ x12_3 t262 _ ?side1 ?side2 A159.out).mono ?_); (case side1 => repeat (first | exact (Kd.R_reads' HO_12.out).2.2 | (with_reducible refine Kd.C_alloc ?_ _) | (with_reducible refine Kd.C_drewN ?_ _) | (with_reducible refine Kd.C_drew ?_))); (case side2 => exact (Kd.R_reads' HO_12.out).2.1); rintro e w' ⟨rfl, ⟨nd, rfl⟩⟩; refine ⟨_, rfl, ?_⟩))
          go_loopg [16, 113] k3 (fun kq v16 v113 w' => ∃ (x16_4 : Bool) (x113_4 : Int), v16 = .bool x16_4 ∧ v113 = .int .i64 x113_4 ∧ Aside0 (carousellaw12_ReqOrders.l1 kq t262 x16_4 x12_3 (x12_3.length : Int) x113_4 = some r) ∧ Aside0 (kq ≤ k3) ∧ Aside0 (Kd.R (Kd.int .i64) 61 w' w.heap.size (fun _ => True) (.slice Ao160 x12_3.length co160) x12_3) ∧ Aside0 (Below w.heap.size w w'))
          case atStart => exact ⟨(false), (0), (by first | rfl | (simp; done) | (simp [*]; done)), (by first | rfl | (simp; done) | (simp [*]; done)), H', ⟨Nat.le_refl _⟩, ⟨by (with_reducible repeat (first | apply Kd.R_alloc | apply Kd.R_drewN | apply Kd.R_drew)); exact HO_12.out⟩, ⟨by repeat (first | (with_reducible first | exact HB.out | apply below_alloc | apply pw_below_drewN | apply below_drew1) | exact HB.out)⟩⟩
          case round =>
           clear H'
           try clear c1
           try clear c2
           try clear p2
           try clear q2
           try clear hx2
           try clear p6
           try clear c7
           try clear c8
           try clear c9
           try clear c10
           try clear c11
           try clear c12
           try clear c13
           try clear c14
           try clear c15
           try clear c22
           try clear c23
           try clear c24
           try clear p25
           try clear q25
           try clear hx25
           try clear p64
           try clear c78
           try clear c78b0
           try clear c78b1
           try clear c80
           try clear c82
           try clear c91
           try clear c93
           try clear c96
           try clear c98
           try clear c101
           try clear c103
           try clear c105
           try clear c107
           try clear c109
           try clear c111
           try clear c114
           try clear c116
           try clear c119
           try clear c121
           try clear c124
           try clear c126
           try clear c128
           try clear c130
           try clear c132
           try clear c134
           try clear c137
           try clear c139
           try clear c142
           try clear c144
           try clear c146
           try clear c148
           try clear c148b0
           try clear c148b1
           try clear c148b2
           try clear c149
           try clear c151
           try clear c154
           try clear c154b0
           try clear c155
           try clear c155b0
           try clear c156
           try clear c156b0
           try clear c157
           try clear hx258_0
           try clear p2
           try clear p258
           try clear p6
           try clear p64
           try clear q258
           obtain ⟨x16_4, x113_4, rfl, rfl, HA, HK4, HO_111, HB⟩ := hrel
           cases gk with
           | zero => exact absurd HA.out (by simp [carousellaw12_ReqOrders.l1])
           | succ k4 =>
            have H := HA.out
            clear HA
            simp only [carousellaw12_ReqOrders.l1] at H
            by_cases c161 : x113_4 < (x12_3.length : Int)
            ·
             rw [if_pos c161] at H
             have c161b0 : decide (x113_4 < (x12_3.length : Int)) = true := decide_eq_true c161
             clear c161
             by_cases c162 : 0 ≤ x113_4
             ·
              rw [if_pos c162] at H
              have c162b0 : decide (0 ≤ x113_4) = true := decide_eq_true c162
              clear c162
              by_cases c163 : x113_4 < (x12_3.length : Int)
              ·
               rw [if_pos c163] at H
               have c163b0 : decide (x113_4 < (x12_3.length : Int)) = true := decide_eq_true c163
               clear c163
               replace H := Option.bind_eq_some_iff.mp H
               obtain ⟨t265, A1640, H⟩ := H
               try dsimp only at H
               have A164 := Aside0.mk A1640
               clear A1640
               by_cases c165 : t265 = true
               ·
                subst c165
                have H1 : (some false) = some r := by rw [if_pos rfl] at H; exact H
                clear H
                have H := H1
                clear H1
                cases (Option.some.inj H).trans hT
               ·
                replace c165 := Bool.eq_false_iff.mpr c165
                subst c165
                have H1 : (if x16_4 = true then (carousellaw12_ReqOrders.l1 k4 t262 true x12_3 (x12_3.length : Int) (wrap64 (x113_4 + 1))) else (carousellaw12_ReqOrders.l1 k4 t262 ((rd x12_3 x113_4) == t262) x12_3 (x12_3.length : Int) (wrap64 (x113_4 + 1)))) = some r := by rw [if_neg (show ¬ (false = true) by decide)] at H; exact H
                clear H
                have H := H1
                clear H1
                by_cases c166 : x16_4 = true
                ·
                 subst c166
                 have H1 : (carousellaw12_ReqOrders.l1 k4 t262 true x12_3 (x12_3.length : Int) (wrap64 (x113_4 + 1))) = some r := by rw [if_pos rfl] at H; exact H
                 clear H
                 have H := H1
                 clear H1
                 have H' := Aside0.mk H
                 clear H
                 have p264 : 0 ≤ (x113_4 : Int) := of_decide_eq_true (by first | (with_reducible assumption) | assumption)
                 have q264 : x113_4 < (x12_3.length : Int) := of_decide_eq_true (by first | (with_reducible assumption) | assumption)
                 obtain ⟨ad264, e264, hx264_0⟩ := Kd.at_int (Kd.R_reads' HO_111.out).2.2 x113_4 p264 q264
                 cases e264
                 replace p264 := eq_true p264
                 replace q264 := eq_true q264
                 go_wp2_with (first | ((with_reducible refine gate_callee (f := 22) rfl ?_); refine goesL_ (some 119) rfl rfl Try.func22 (by kernel_rfl) rfl #[.int .i64 (rd x12_3 x113_4), .int .i64 t262] rfl (by (try simp only [List.map_toArray, List.map_cons, List.map_nil]); first | done | rfl | (simp only [List.length_drop, List.length_take]; rfl)) ?_; (with_reducible refine (req_Kind_Above.calls (rd x12_3 x113_4) t262 false _ A164.out).mono ?_); rintro e w' ⟨rfl, ⟨nd, rfl⟩⟩; refine ⟨_, rfl, ?_⟩))
                 go_roundg k4
                 case measure => have := HJ4.out; have := HJ146.out; have := HK3.out; have := HK4.out; omega
                 case rel => exact ⟨(true), (wrap64 (x113_4 + 1)), (by first | rfl | (simp; done) | (simp [*]; done)), (by first | rfl | (simp; done) | (simp [*]; done)), H', ⟨by have := HJ4.out; have := HJ146.out; have := HK3.out; have := HK4.out; omega⟩, ⟨by (with_reducible repeat (first | apply Kd.R_alloc | apply Kd.R_drewN | apply Kd.R_drew)); exact HO_111.out⟩, ⟨by repeat (first | (with_reducible first | exact HB.out | apply below_alloc | apply pw_below_drewN | apply below_drew1) | exact HB.out)⟩⟩
                ·
                 replace c166 := Bool.eq_false_iff.mpr c166
                 subst c166
                 have H1 : (carousellaw12_ReqOrders.l1 k4 t262 ((rd x12_3 x113_4) == t262) x12_3 (x12_3.length : Int) (wrap64 (x113_4 + 1))) = some r := by rw [if_neg (show ¬ (false = true) by decide)] at H; exact H
                 clear H
                 have H := H1
                 clear H1
                 have H' := Aside0.mk H
                 clear H
                 have p264 : 0 ≤ (x113_4 : Int) := of_decide_eq_true (by first | (with_reducible assumption) | assumption)
                 have q264 : x113_4 < (x12_3.length : Int) := of_decide_eq_true (by first | (with_reducible assumption) | assumption)
                 obtain ⟨ad264, e264, hx264_0⟩ := Kd.at_int (Kd.R_reads' HO_111.out).2.2 x113_4 p264 q264
                 cases e264
                 replace p264 := eq_true p264
                 replace q264 := eq_true q264
                 go_wp2_with (first | ((with_reducible refine gate_callee (f := 22) rfl ?_); refine goesL_ (some 119) rfl rfl Try.func22 (by kernel_rfl) rfl #[.int .i64 (rd x12_3 x113_4), .int .i64 t262] rfl (by (try simp only [List.map_toArray, List.map_cons, List.map_nil]); first | done | rfl | (simp only [List.length_drop, List.length_take]; rfl)) ?_; (with_reducible refine (req_Kind_Above.calls (rd x12_3 x113_4) t262 false _ A164.out).mono ?_); rintro e w' ⟨rfl, ⟨nd, rfl⟩⟩; refine ⟨_, rfl, ?_⟩))
                 go_roundg k4
                 case measure => have := HJ4.out; have := HJ146.out; have := HK3.out; have := HK4.out; omega
                 case rel => exact ⟨(((rd x12_3 x113_4) == t262)), (wrap64 (x113_4 + 1)), (by first | rfl | (simp; done) | (simp [*]; done)), (by first | rfl | (simp; done) | (simp [*]; done)), H', ⟨by have := HJ4.out; have := HJ146.out; have := HK3.out; have := HK4.out; omega⟩, ⟨by (with_reducible repeat (first | apply Kd.R_alloc | apply Kd.R_drewN | apply Kd.R_drew)); exact HO_111.out⟩, ⟨by repeat (first | (with_reducible first | exact HB.out | apply below_alloc | apply pw_below_drewN | apply below_drew1) | exact HB.out)⟩⟩
              ·
               rw [if_neg c163] at H
               exact absurd H (by simp)
             ·
              rw [if_neg c162] at H
              exact absurd H (by simp)
            ·
             rw [if_neg c161] at H
             have c161b0 : decide (x113_4 < (x12_3.length : Int)) = false := decide_eq_false c161
             clear c161
             replace H := Option.bind_eq_some_iff.mp H
             obtain ⟨t263, A1670, H⟩ := H
             try dsimp only at H
             have A167 := Aside0.mk A1670
             clear A1670
             by_cases c168 : t263 = true
             ·
              subst c168
              have H1 : (some x16_4) = some r := by rw [if_pos rfl] at H; exact H
              clear H
              have H := H1
              clear H1
              obtain rfl := Option.some.inj H
              go_wp2_with (first | ((with_reducible refine gate_callee (f := 23) rfl ?_); refine goesL_ (some 127) rfl rfl Try.func23 (by kernel_rfl) rfl #[] rfl (by (try simp only [List.map_toArray, List.map_cons, List.map_nil]); first | done | rfl | (simp only [List.length_drop, List.length_take]; rfl)) ?_; (with_reducible refine (carousellaw12_Awake.calls k4  true _ A167.out).mono ?_); rintro e w169 ⟨rfl, hb⟩; refine ⟨_, rfl, ?_⟩; have n0_ := Aside0.mk (Kd.R_below (by (with_reducible repeat (first | apply Kd.R_alloc | apply Kd.R_drewN | apply Kd.R_drew)); exact HO_111.out) hb); have n1_ := Aside0.mk (below_step (by repeat (first | (with_reducible first | exact HB.out | apply below_alloc | apply pw_below_drewN | apply below_drew1) | exact HB.out)) hb); clear HO_111; clear HB; have HO_111 := n0_; have HB := n1_; clear n0_ n1_; (try clear hb); (try clear hb2); (try clear hk); (try clear hi)))
              go_ret
              exact ⟨by first | rfl | (simp [errW_none, errW_some] <;> rfl) | (simp [*, errW_none, errW_some] <;> rfl), by repeat (first | (with_reducible first | exact HB.out | apply below_alloc | apply pw_below_drewN | apply below_drew1) | exact HB.out)⟩
             ·
              replace c168 := Bool.eq_false_iff.mpr c168
              subst c168
              have H1 : (some false) = some r := by rw [if_neg (show ¬ (false = true) by decide)] at H; exact H
              clear H
              have H := H1
              clear H1
              cases (Option.some.inj H).trans hT

/-- THE ONE PURE STATEMENT of carousellaw12_ReqOrders: yours. -/
def carousellaw12_ReqOrders.Pure : Prop := ∀ (a0 : Int) (a1 : Int) (a2 : Int) (l3 : List Int), (Lit.int .u8 a0).wf = true → (Lit.int .u8 a1).wf = true → (Lit.int .u8 a2).wf = true → l3.length ≤ maxLen → l3.length * 1 ≤ 140737488351232 → (∀ x ∈ l3, (Lit.int .u8 x).wf = true) → ∃ k, carousellaw12_ReqOrders.f k a0 a1 a2 l3 = some true
theorem carousellaw12_ReqOrders.walk (P : carousellaw12_ReqOrders.Pure) (a0 : Int) (a1 : Int) (a2 : Int) (A3 : Option Addr) (c3 : Nat) (l3 : List Int) (w : World) (w0_0 : (Lit.int .u8 a0).wf = true) (w1_0 : (Lit.int .u8 a1).wf = true) (w2_0 : (Lit.int .u8 a2).wf = true) (hr3 : Kd.C (Kd.int .u8) w A3 l3.length l3) (hc3 : l3.length ≤ c3) (w3_0 : l3.length ≤ maxLen) (w3_1 : l3.length * 1 ≤ 140737488351232) (w3_2 : (∀ x ∈ l3, (Lit.int .u8 x).wf = true)) :
  Calls Try.prog 7 #[.int .u8 a0, .int .u8 a1, .int .u8 a2, .slice A3 l3.length c3] w fun e w' => e = .returned (.bool true) ∧ Below w.heap.size w w' := by
 obtain ⟨k, h⟩ := P a0 a1 a2 l3 w0_0 w1_0 w2_0 w3_0 w3_1 w3_2
 refine (carousellaw12_ReqOrders.calls k a0 a1 a2 A3 c3 l3 true w hr3 hc3 h rfl).mono ?_
 rintro e w' ⟨rfl, hd⟩
 exact ⟨rfl, hd⟩

end Go.Proofs.Ytmdaaphjndjakad.PReqOrders
